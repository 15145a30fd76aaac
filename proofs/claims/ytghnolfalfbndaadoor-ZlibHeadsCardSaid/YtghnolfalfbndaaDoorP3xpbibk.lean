/- Printed by a program of mine: each Go function answers what its model answers; conditions: what each theorem asks of memory. -/
import Derived.Test.YtghnolfalfbndaaDoorP2xkmfmb
set_option linter.unusedVariables false
set_option linter.unusedSimpArgs false
namespace Go.TrydS
open Go Go.Sl Go.Mo Go.Proofs
theorem mortiseref07_state_match_c {H : Imm} {F : List Frag} {w : World} {R : Ending → World → Prop} {kr : (Int × Int × (List Int)) → Prop} {kp : Value → Prop} (hG : Gl H) (K : Nat) (s2357 : T_mortiseref07_state) (symbol2368 : Int) (distances2369 : T_mortiseref07_code) (b2358 : Nat) (f2359 : Frag) (b2361 : Nat) (f2362 : Frag) (A2364 : Option Addr) (c2365 : Nat) (f2366 : Frag) (A2370 : Option Addr) (c2371 : Nat) (A2374 : Option Addr) (c2375 : Nat) (hB2360 : Blk f2359 b2358 ([ptr b2361 0, .slice A2364 s2357.out_.length c2365, .int .i64 s2357.limit_]) 59) (hB2363 : Blk f2362 b2361 ([str s2357.r_.S_, .int .i64 s2357.r_.At_]) 57) (hV2367 : Vec 5 (ci .u8) 1 A2364 s2357.out_ c2365 f2366) (hr2372 : Rdl H [] F (ci .i64) A2370 distances2369.l_) (hc2373 : distances2369.l_.length ≤ c2371) (hr2376 : Rdl H [] F (ci .i64) A2374 distances2369.codes_) (hc2377 : distances2369.codes_.length ≤ c2375)
    (hS : St w H [f2359, f2362, f2366] F) (hm : (mortiseref07_state_match.m K s2357 symbol2368 distances2369).wp kr kp)
    (hret : ∀ (x2477 : Int) (at_2478 : Int) (f2479 : Frag) (A2481 : Option Addr) (c2482 : Nat) (out2483 : (List Int)) (f2484 : Frag) (f2486 : Frag) (w : World), kr (x2477, at_2478, out2483) → (Blk f2479 b2361 ([str s2357.r_.S_, .int .i64 at_2478]) 57) → (Vec 5 (ci .u8) 1 A2481 out2483 c2482 f2484) → (Blk f2486 b2358 ([ptr b2361 0, .slice A2481 out2483.length c2482, .int .i64 s2357.limit_]) 59) → St w H [f2486, f2479, f2484] F → R (.returned (.int .i64 x2477)) w) :
    Calls Tryd.prog 50 ⟨[ptr b2358 0, .int .i64 symbol2368, .agg ⟨[.slice A2370 distances2369.l_.length c2371, .slice A2374 distances2369.codes_.length c2375]⟩]⟩ w R := by
  refine enter Tryd.func50 rfl Tryd.ntmps50 rfl hS fun a w hS => ?_
  have hM := hm; clear hm
  rw [mortiseref07_state_match.m] at hM
  refine wp_seq ?_
  refine wp_region_list ?_
  refine bx ([.slice A2370 distances2369.l_.length c2371, .slice A2374 distances2369.codes_.length c2375]) hS rfl rfl rfl fun w b2378 f2379 hB2380 hS => ?_
  refine st1 hS (asg rfl) rfl fun a w hS => ?_
  refine wpList_nil ?_
  refine then_n ?_
  refine wp_seq ?_
  refine wp_seq ?_
  refine wp_region_list ?_
  refine st1 hS (mv rfl) rfl fun a w hS => ?_
  refine st1 hS (bin rfl rfl rfl) rfl fun a w hS => ?_
  refine wpList_nil ?_
  refine then_n ?_
  refine s_cond hS rfl hM (fun hb2381 hM => ?_) (fun hb2381 hM => ?_)
  · refine wp_seq ?_
    refine wp_region_list ?_
    refine st1 hS (asg rfl) rfl fun a w hS => ?_
    refine wpList_nil ?_
    refine then_n ?_
    refine wp_ret ?_
    refine then_ret ?_
    exact s_ret (rs := [6]) hS rfl rfl (hret (3 : Int) s2357.r_.At_ f2362 A2364 c2365 s2357.out_ f2366 f2359 w hM hB2363 hV2367 hB2360 (hS.st.pick [1, 2, 3] (by kernel_rfl)))
  · refine wp_skip ?_
    refine then_n ?_
    refine wp_seq ?_
    refine wp_region_list ?_
    refine st1 hS (mv rfl) rfl fun a w hS => ?_
    refine s_call hS rfl Tryd.call58 (mortiseref07_Length_c hG K symbol2368 (hS.st.part 0 [0, 1, 2, 3] (by kernel_rfl)) (wp_bind hM) (fun x2392 x2393 w hM  hst => s_back hS.ev hst.appF rfl fun hS => ?_))
    replace hS : Ss _ _ _ H [f2379, f2359, f2362, f2366] F _ _ := hS
    refine st1 hS (mv rfl) rfl fun a w hS => ?_
    refine st1 hS (ex rfl rfl) rfl fun a w hS => ?_
    refine st1 hS (ex rfl rfl) rfl fun a w hS => ?_
    refine st1 hS (asg rfl) rfl fun a w hS => ?_
    refine st1 hS (asg rfl) rfl fun a w hS => ?_
    refine wpList_nil ?_
    refine then_n ?_
    refine wp_seq ?_
    refine wp_region_list ?_
    refine st1 hS (mv rfl) rfl fun a w hS => ?_
    refine st1 hS (mv rfl) rfl fun a w hS => ?_
    refine st1 hS (mv rfl) rfl fun a w hS => ?_
    refine s_call hS rfl Tryd.call33 (mortiseref07_state_bits_c hG K s2357 x2393 x2392 b2358 f2359 b2361 f2362 A2364 c2365 f2366 hB2360 hB2363 hV2367 (hS.st.part 3 [1, 2, 3, 0] (by kernel_rfl)) (wp_bind hM) (fun x2394 x2395 at_2396 f2397 w hM h2398 hst => s_back hS.ev hst.appF rfl fun hS => ?_))
    replace hS : Ss _ _ _ H [f2359, f2397, f2366, f2379] F _ _ := hS
    refine st1 hS (mv rfl) rfl fun a w hS => ?_
    refine st1 hS (ex rfl rfl) rfl fun a w hS => ?_
    refine st1 hS (ex rfl rfl) rfl fun a w hS => ?_
    refine st1 hS (asg rfl) rfl fun a w hS => ?_
    refine st1 hS (asg rfl) rfl fun a w hS => ?_
    refine wpList_nil ?_
    refine then_n ?_
    refine wp_seq ?_
    refine wp_seq ?_
    refine wp_region_list ?_
    refine st1 hS (mv rfl) rfl fun a w hS => ?_
    refine st1 hS (bin rfl rfl rfl) rfl fun a w hS => ?_
    refine wpList_nil ?_
    refine then_n ?_
    refine s_cond hS rfl hM (fun hb2399 hM => ?_) (fun hb2399 hM => ?_)
    · refine wp_seq ?_
      refine wp_region_list ?_
      refine st1 hS (mv rfl) rfl fun a w hS => ?_
      refine st1 hS (asg rfl) rfl fun a w hS => ?_
      refine wpList_nil ?_
      refine then_n ?_
      refine wp_ret ?_
      refine then_ret ?_
      exact s_ret (rs := [6]) hS rfl rfl (hret x2395 at_2396 f2397 A2364 c2365 s2357.out_ f2366 f2359 w hM h2398 hV2367 hB2360 (hS.st.pick [0, 1, 2] (by kernel_rfl)))
    · refine wp_skip ?_
      refine then_n ?_
      refine wp_seq ?_
      refine draw_begin (vals := [some (ptr b2378 0), some (.slice A2370 distances2369.l_.length c2371), some (ptr b2378 1), some (.slice A2374 distances2369.codes_.length c2375), some (ptr b2358 0), some (ptr b2358 0), some (ptr b2358 0), some (ptr b2361 0), none, none, none, none, none, none]) hS mixed rfl ?_
      intro l w ho hcl hA hst
      refine phase' (vals := [some (ptr b2378 0), some (.slice A2370 distances2369.l_.length c2371), some (ptr b2378 1), some (.slice A2374 distances2369.codes_.length c2375), some (ptr b2358 0), some (ptr b2358 0), some (ptr b2358 0), some (ptr b2361 0), none, none, none, none, none, none]) 8 [] [0, 1, 2, 3, 4, 5, 6, 7] rfl rfl rfl rfl (by exact ⟨nR rfl rfl rfl rfl rfl (by exact ovE (fad rfl Tryd.runUnderlying78 rfl Tryd.sizeOf74 rfl) rfl), nR rfl rfl rfl rfl rfl (by exact ovE (ldb 3 rfl hB2380 rfl rfl Tryd.isAgg74) rfl), nR rfl rfl rfl rfl rfl (by exact ovE (fad rfl Tryd.runUnderlying78 rfl Tryd.sizeOf74 rfl) rfl), nR rfl rfl rfl rfl rfl (by exact ovE (ldb 3 rfl hB2380 rfl rfl Tryd.isAgg74) rfl), nR rfl rfl rfl rfl rfl (by exact ovE (mv rfl) rfl), nR rfl rfl rfl rfl rfl (by exact ovE (nck rfl) rfl), nR rfl rfl rfl rfl rfl (by exact ovE (fad rfl Tryd.runUnderlying59 rfl Tryd.sizeOf55 rfl) rfl), nR rfl rfl rfl rfl rfl (by exact ovE (ldb 0 rfl hB2360 rfl rfl Tryd.isAgg55) rfl), trivial⟩) (fun D l a w ho hcl hav hpre hm hE hk hA hst => ?_) ho hcl (fun j hj => (List.not_mem_nil hj).elim) (fun m hm => (List.not_mem_nil hm).elim) List.not_mem_nil hA hst
      have hS := (Ss.mk hE hst).env2 (e' := [(37, .slice A2370 distances2369.l_.length c2371), (39, .slice A2374 distances2369.codes_.length c2375), (43, ptr b2361 0)]) ⟨rfl, rfl, rfl, trivial⟩
      refine op_of_nth rfl ?_
      refine s_call hS rfl Tryd.call49 (mortiseref06_Next_c hG K distances2369.l_ distances2369.codes_ (T_mortiseref05_Reader.mk s2357.r_.S_ at_2396) A2370 c2371 A2374 c2375 b2361 f2397 (hr2372.app _) hc2373 (hr2376.app _) hc2377 h2398 (hS.st.part 1 [1, 0, 2, 3] (by kernel_rfl)) (wp_bind hM) (fun x2400 x2401 at_2402 f2403 w hM h2404 hst => s_back hS.ev hst.appF rfl fun hS => ?_))
      replace hS : Ss _ _ _ H [f2403, f2359, f2366, f2379] F _ _ := hS
      refine wpList_nil (then_n ?_)
      have hcl2 := hcl.cons (k := 8) (nth_get rfl) hpre
      have hmust := must_cons (k := 8) hm (chain (k := 8) hcl (nth_get rfl) hpre [(1, 8), (3, 8), (7, 8), (0, 1), (2, 3), (6, 7), (5, 6), (4, 5)] [] rfl (fun _ h => absurd h List.not_mem_nil))
      replace hst := hS.st
      have hav2 := hav.cons (vals' := [some (ptr b2378 0), some (.slice A2370 distances2369.l_.length c2371), some (ptr b2378 1), some (.slice A2374 distances2369.codes_.length c2375), some (ptr b2358 0), some (ptr b2358 0), some (ptr b2358 0), some (ptr b2361 0), some (.tuple ⟨[.int .i64 x2400, .int .i64 x2401]⟩), some (.tuple ⟨[.int .i64 x2400, .int .i64 x2401]⟩), some (.int .i64 x2400), some (.int .i64 x2401), some (.int .i64 x2400), some (.int .i64 x2401)]) (k := 8) ⟨rfl, rfl, rfl, rfl, rfl, rfl, rfl, rfl, trivial⟩ rfl
      replace hA := (hA.next hav (subV.get (l' := [some (ptr b2378 0), some (.slice A2370 distances2369.l_.length c2371), some (ptr b2378 1), some (.slice A2374 distances2369.codes_.length c2375), some (ptr b2358 0), some (ptr b2358 0), some (ptr b2358 0), some (ptr b2361 0), some (.tuple ⟨[.int .i64 x2400, .int .i64 x2401]⟩), some (.tuple ⟨[.int .i64 x2400, .int .i64 x2401]⟩), some (.int .i64 x2400), some (.int .i64 x2401), some (.int .i64 x2400), some (.int .i64 x2401)]) ⟨rfl, rfl, rfl, rfl, rfl, rfl, rfl, rfl, trivial⟩)).step rfl (nth_get rfl) hk rfl rfl rfl
      clear hm hav
      replace hcl := hcl2
      refine phaseE (vals := [some (ptr b2378 0), some (.slice A2370 distances2369.l_.length c2371), some (ptr b2378 1), some (.slice A2374 distances2369.codes_.length c2375), some (ptr b2358 0), some (ptr b2358 0), some (ptr b2358 0), some (ptr b2361 0), some (.tuple ⟨[.int .i64 x2400, .int .i64 x2401]⟩), some (.tuple ⟨[.int .i64 x2400, .int .i64 x2401]⟩), some (.int .i64 x2400), some (.int .i64 x2401), some (.int .i64 x2400), some (.int .i64 x2401)]) [8, 1, 3, 7, 0, 2, 6, 5, 4] [9, 10, 11, 12, 13] rfl rfl rfl (by exact ⟨nR rfl rfl rfl rfl rfl (by exact ovE (mv rfl) rfl), nR rfl rfl rfl rfl rfl (by exact ovE (ex rfl rfl) rfl), nR rfl rfl rfl rfl rfl (by exact ovE (ex rfl rfl) rfl), nR rfl rfl rfl rfl rfl (by exact ovE (asg rfl) rfl), nR rfl rfl rfl rfl rfl (by exact ovE (asg rfl) rfl), trivial⟩) (fun a w hS => ?_) ho hcl hmust hA hst
      replace hS := hS.env2 (e' := [(0, ptr b2358 0), (9, .int .i64 x2394), (11, .int .i64 x2400), (12, .int .i64 x2401)]) ⟨rfl, rfl, rfl, rfl, trivial⟩
      refine then_n ?_
      refine wp_seq ?_
      refine wp_seq ?_
      refine wp_region_list ?_
      refine st1 hS (mv rfl) rfl fun a w hS => ?_
      refine st1 hS (bin rfl rfl rfl) rfl fun a w hS => ?_
      refine wpList_nil ?_
      refine then_n ?_
      refine s_cond hS rfl hM (fun hb2405 hM => ?_) (fun hb2405 hM => ?_)
      · refine wp_seq ?_
        refine wp_region_list ?_
        refine st1 hS (mv rfl) rfl fun a w hS => ?_
        refine st1 hS (asg rfl) rfl fun a w hS => ?_
        refine wpList_nil ?_
        refine then_n ?_
        refine wp_ret ?_
        refine then_ret ?_
        exact s_ret (rs := [6]) hS rfl rfl (hret x2401 at_2402 f2403 A2364 c2365 s2357.out_ f2366 f2359 w hM h2404 hV2367 hB2360 (hS.st.pick [1, 0, 2] (by kernel_rfl)))
      · refine wp_skip ?_
        refine then_n ?_
        refine wp_seq ?_
        refine wp_seq ?_
        refine wp_region_list ?_
        refine st1 hS (mv rfl) rfl fun a w hS => ?_
        refine st1 hS (bin rfl rfl rfl) rfl fun a w hS => ?_
        refine wpList_nil ?_
        refine then_n ?_
        refine s_cond hS rfl hM (fun hb2406 hM => ?_) (fun hb2406 hM => ?_)
        · refine wp_seq ?_
          refine wp_region_list ?_
          refine st1 hS (asg rfl) rfl fun a w hS => ?_
          refine wpList_nil ?_
          refine then_n ?_
          refine wp_ret ?_
          refine then_ret ?_
          exact s_ret (rs := [6]) hS rfl rfl (hret (3 : Int) at_2402 f2403 A2364 c2365 s2357.out_ f2366 f2359 w hM h2404 hV2367 hB2360 (hS.st.pick [1, 0, 2] (by kernel_rfl)))
        · refine wp_skip ?_
          refine then_n ?_
          refine wp_seq ?_
          refine wp_region_list ?_
          refine st1 hS (mv rfl) rfl fun a w hS => ?_
          refine s_call hS rfl Tryd.call59 (mortiseref07_Distance_c hG K x2400 (hS.st.part 0 [0, 1, 2, 3] (by kernel_rfl)) (wp_bind hM) (fun x2415 x2416 w hM  hst => s_back hS.ev hst.appF rfl fun hS => ?_))
          replace hS : Ss _ _ _ H [f2403, f2359, f2366, f2379] F _ _ := hS
          refine st1 hS (mv rfl) rfl fun a w hS => ?_
          refine st1 hS (ex rfl rfl) rfl fun a w hS => ?_
          refine st1 hS (ex rfl rfl) rfl fun a w hS => ?_
          refine st1 hS (asg rfl) rfl fun a w hS => ?_
          refine st1 hS (asg rfl) rfl fun a w hS => ?_
          refine wpList_nil ?_
          refine then_n ?_
          refine wp_seq ?_
          refine wp_region_list ?_
          refine st1 hS (mv rfl) rfl fun a w hS => ?_
          refine st1 hS (mv rfl) rfl fun a w hS => ?_
          refine st1 hS (mv rfl) rfl fun a w hS => ?_
          refine s_call hS rfl Tryd.call33 (mortiseref07_state_bits_c hG K (T_mortiseref07_state.mk (T_mortiseref05_Reader.mk s2357.r_.S_ at_2402) s2357.out_ s2357.limit_) x2416 x2415 b2358 f2359 b2361 f2403 A2364 c2365 f2366 hB2360 h2404 hV2367 (hS.st.part 3 [1, 0, 2, 3] (by kernel_rfl)) (wp_bind hM) (fun x2417 x2418 at_2419 f2420 w hM h2421 hst => s_back hS.ev hst.appF rfl fun hS => ?_))
          replace hS : Ss _ _ _ H [f2359, f2420, f2366, f2379] F _ _ := hS
          refine st1 hS (mv rfl) rfl fun a w hS => ?_
          refine st1 hS (ex rfl rfl) rfl fun a w hS => ?_
          refine st1 hS (ex rfl rfl) rfl fun a w hS => ?_
          refine st1 hS (asg rfl) rfl fun a w hS => ?_
          refine st1 hS (asg rfl) rfl fun a w hS => ?_
          refine wpList_nil ?_
          refine then_n ?_
          refine wp_seq ?_
          refine wp_seq ?_
          refine wp_region_list ?_
          refine st1 hS (mv rfl) rfl fun a w hS => ?_
          refine st1 hS (bin rfl rfl rfl) rfl fun a w hS => ?_
          refine wpList_nil ?_
          refine then_n ?_
          refine s_cond hS rfl hM (fun hb2422 hM => ?_) (fun hb2422 hM => ?_)
          · refine wp_seq ?_
            refine wp_region_list ?_
            refine st1 hS (mv rfl) rfl fun a w hS => ?_
            refine st1 hS (asg rfl) rfl fun a w hS => ?_
            refine wpList_nil ?_
            refine then_n ?_
            refine wp_ret ?_
            refine then_ret ?_
            exact s_ret (rs := [6]) hS rfl rfl (hret x2418 at_2419 f2420 A2364 c2365 s2357.out_ f2366 f2359 w hM h2421 hV2367 hB2360 (hS.st.pick [0, 1, 2] (by kernel_rfl)))
          · refine wp_skip ?_
            refine then_n ?_
            refine wp_seq ?_
            refine wp_seq ?_
            refine wp_region_list ?_
            refine st1 hS (mv rfl) rfl fun a w hS => ?_
            refine st1 hS (mv rfl) rfl fun a w hS => ?_
            refine st1 hS (nck rfl) rfl fun a w hS => ?_
            refine st1 hS (fad rfl Tryd.runUnderlying59 rfl Tryd.sizeOf27 rfl) rfl fun a w hS => ?_
            refine st1 hS (ldb 0 rfl hB2360 rfl rfl Tryd.isAgg27) rfl fun a w hS => ?_
            refine st1 hS (lenV rfl Tryd.runUnderlying27) rfl fun a w hS => ?_
            refine st1 hS (bin rfl rfl rfl) rfl fun a w hS => ?_
            refine wpList_nil ?_
            refine then_n ?_
            refine s_cond hS rfl hM (fun hb2423 hM => ?_) (fun hb2423 hM => ?_)
            · refine wp_seq ?_
              refine wp_region_list ?_
              refine st1 hS (asg rfl) rfl fun a w hS => ?_
              refine wpList_nil ?_
              refine then_n ?_
              refine wp_ret ?_
              refine then_ret ?_
              exact s_ret (rs := [6]) hS rfl rfl (hret (3 : Int) at_2419 f2420 A2364 c2365 s2357.out_ f2366 f2359 w hM h2421 hV2367 hB2360 (hS.st.pick [0, 1, 2] (by kernel_rfl)))
            · refine wp_skip ?_
              refine then_n ?_
              refine wp_seq ?_
              refine wp_seq ?_
              refine draw_begin (vals := [some (.int .i64 x2394), some (ptr b2358 0), some (ptr b2358 0), some (ptr b2358 2), some (.int .i64 s2357.limit_), some (ptr b2358 0), some (ptr b2358 0), some (ptr b2358 1), some (.slice A2364 s2357.out_.length c2365), some (.int .i64 (s2357.out_.length : Int)), some (.int .i64 (w64 (s2357.limit_ - (s2357.out_.length : Int)))), some (.bool (decide (x2394 > (w64 (s2357.limit_ - (s2357.out_.length : Int))))))]) hS mixed rfl ?_
              intro l w ho hcl hA hst
              refine phaseE (vals := [some (.int .i64 x2394), some (ptr b2358 0), some (ptr b2358 0), some (ptr b2358 2), some (.int .i64 s2357.limit_), some (ptr b2358 0), some (ptr b2358 0), some (ptr b2358 1), some (.slice A2364 s2357.out_.length c2365), some (.int .i64 (s2357.out_.length : Int)), some (.int .i64 (w64 (s2357.limit_ - (s2357.out_.length : Int)))), some (.bool (decide (x2394 > (w64 (s2357.limit_ - (s2357.out_.length : Int))))))]) [] [0, 1, 2, 3, 4, 5, 6, 7, 8, 9, 10, 11] rfl rfl rfl (by exact ⟨nR rfl rfl rfl rfl rfl (by exact ovE (mv rfl) rfl), nR rfl rfl rfl rfl rfl (by exact ovE (mv rfl) rfl), nR rfl rfl rfl rfl rfl (by exact ovE (nck rfl) rfl), nR rfl rfl rfl rfl rfl (by exact ovE (fad rfl Tryd.runUnderlying59 rfl Tryd.sizeOf3 rfl) rfl), nR rfl rfl rfl rfl rfl (by exact ovE (ldb 0 rfl hB2360 rfl rfl Tryd.isAgg3) rfl), nR rfl rfl rfl rfl rfl (by exact ovE (mv rfl) rfl), nR rfl rfl rfl rfl rfl (by exact ovE (nck rfl) rfl), nR rfl rfl rfl rfl rfl (by exact ovE (fad rfl Tryd.runUnderlying59 rfl Tryd.sizeOf27 rfl) rfl), nR rfl rfl rfl rfl rfl (by exact ovE (ldb 0 rfl hB2360 rfl rfl Tryd.isAgg27) rfl), nR rfl rfl rfl rfl rfl (by exact ovE (lenV rfl Tryd.runUnderlying27) rfl), nR rfl rfl rfl rfl rfl (by exact ovE (bin rfl rfl rfl) rfl), nR rfl rfl rfl rfl rfl (by exact ovE (bin rfl rfl rfl) rfl), trivial⟩) (fun a w hS => ?_) ho hcl (fun m hm => (List.not_mem_nil hm).elim) hA hst
              replace hS := hS.env2 (e' := [(0, ptr b2358 0), (9, .int .i64 x2394), (15, .int .i64 x2417), (85, .bool (decide (x2394 > (w64 (s2357.limit_ - (s2357.out_.length : Int))))))]) ⟨rfl, rfl, rfl, rfl, trivial⟩
              refine then_n ?_
              refine s_cond hS rfl hM (fun hb2424 hM => ?_) (fun hb2424 hM => ?_)
              · refine wp_seq ?_
                refine wp_region_list ?_
                refine st1 hS (asg rfl) rfl fun a w hS => ?_
                refine wpList_nil ?_
                refine then_n ?_
                refine wp_ret ?_
                refine then_ret ?_
                exact s_ret (rs := [6]) hS rfl rfl (hret (11 : Int) at_2419 f2420 A2364 c2365 s2357.out_ f2366 f2359 w hM h2421 hV2367 hB2360 (hS.st.pick [0, 1, 2] (by kernel_rfl)))
              · refine wp_skip ?_
                refine then_n ?_
                refine wp_seq ?_
                refine wp_seq ?_
                refine wp_region_list ?_
                refine st1 hS (asg rfl) rfl fun a w hS => ?_
                refine wpList_nil ?_
                refine then_n ?_
                refine wp_block ?_
                refine s_loopJ (fun k2459 a w => ∃ (A2451 : Option Addr) (c2452 : Nat) (out2453 : (List Int)) (f2454 : Frag) (f2456 : Frag) (i2458 : Int), Ss 113 [] [(0, ptr b2358 0), (9, .int .i64 x2394), (15, .int .i64 x2417), (17, .int .i64 i2458)] H [f2456, f2420, f2454] F a w ∧ (Vec 5 (ci .u8) 1 A2451 out2453 c2452 f2454) ∧ (Blk f2456 b2358 ([ptr b2361 0, .slice A2451 out2453.length c2452, .int .i64 s2357.limit_]) 59) ∧ (mortiseref07_state_match.l1 K x2394 x2417 at_2419 k2459 out2453 i2458).wp kr kp) K ?_ ?_ ?_
                · exact ⟨A2364, c2365, s2357.out_, f2366, f2359, (0 : Int), hS.to [0, 1, 2] (by kernel_rfl) ⟨rfl, rfl, rfl, rfl, trivial⟩, hV2367, hB2360, hM⟩
                · intro a w hI; obtain ⟨_, _, _, _, _, _, _, _, _, hM⟩ := hI; exact hM
                · intro k2459 a w hI J2476 hJ2476
                  obtain ⟨A2451, c2452, out2453, f2454, f2456, i2458, hS, hV2455, hB2457, hM⟩ := hI
                  rw [mortiseref07_state_match.l1] at hM
                  refine wp_seq ?_
                  refine wp_seq ?_
                  refine wp_region_list ?_
                  refine st1 hS (mv rfl) rfl fun a w hS => ?_
                  refine st1 hS (mv rfl) rfl fun a w hS => ?_
                  refine st1 hS (bin rfl rfl rfl) rfl fun a w hS => ?_
                  refine wpList_nil ?_
                  refine then_n ?_
                  refine s_cond hS rfl hM (fun hb2460 hM => ?_) (fun hb2460 hM => ?_)
                  · refine wp_skip ?_
                    refine then_n ?_
                    refine wp_seq ?_
                    refine wp_block ?_
                    obtain ⟨hk2462, hM⟩ := wp_chk hM
                    refine draw_begin (vals := [some (ptr b2358 0), some (ptr b2358 0), some (ptr b2358 0), some (ptr b2358 1), some (.slice A2451 out2453.length c2452), some (ptr b2358 0), some (ptr b2358 0), some (ptr b2358 1), some (.slice A2451 out2453.length c2452), some (ptr b2358 0), some (ptr b2358 0), some (ptr b2358 1), some (.slice A2451 out2453.length c2452), some (.int .i64 (out2453.length : Int)), some (.int .i64 x2417), some (.int .i64 (w64 ((out2453.length : Int) - x2417))), some (slp A2451 (Int.toNat (w64 ((out2453.length : Int) - x2417)) * 1)), some (.int .u8 (rd out2453 (w64 ((out2453.length : Int) - x2417)))), none, none, none, none, none]) hS mixed rfl ?_
                    intro l w ho hcl hA hst
                    refine phase' (vals := [some (ptr b2358 0), some (ptr b2358 0), some (ptr b2358 0), some (ptr b2358 1), some (.slice A2451 out2453.length c2452), some (ptr b2358 0), some (ptr b2358 0), some (ptr b2358 1), some (.slice A2451 out2453.length c2452), some (ptr b2358 0), some (ptr b2358 0), some (ptr b2358 1), some (.slice A2451 out2453.length c2452), some (.int .i64 (out2453.length : Int)), some (.int .i64 x2417), some (.int .i64 (w64 ((out2453.length : Int) - x2417))), some (slp A2451 (Int.toNat (w64 ((out2453.length : Int) - x2417)) * 1)), some (.int .u8 (rd out2453 (w64 ((out2453.length : Int) - x2417)))), none, none, none, none, none]) 18 [] [0, 1, 2, 3, 4, 5, 6, 7, 8, 9, 10, 11, 12, 13, 14, 15, 16, 17] rfl rfl rfl rfl (by exact ⟨nR rfl rfl rfl rfl rfl (by exact ovE (mv rfl) rfl), nR rfl rfl rfl rfl rfl (by exact ovE (mv rfl) rfl), nR rfl rfl rfl rfl rfl (by exact ovE (nck rfl) rfl), nR rfl rfl rfl rfl rfl (by exact ovE (fad rfl Tryd.runUnderlying59 rfl Tryd.sizeOf27 rfl) rfl), nR rfl rfl rfl rfl rfl (by exact ovE (ldb 0 rfl hB2457 rfl rfl Tryd.isAgg27) rfl), nR rfl rfl rfl rfl rfl (by exact ovE (mv rfl) rfl), nR rfl rfl rfl rfl rfl (by exact ovE (nck rfl) rfl), nR rfl rfl rfl rfl rfl (by exact ovE (fad rfl Tryd.runUnderlying59 rfl Tryd.sizeOf27 rfl) rfl), nR rfl rfl rfl rfl rfl (by exact ovE (ldb 0 rfl hB2457 rfl rfl Tryd.isAgg27) rfl), nR rfl rfl rfl rfl rfl (by exact ovE (mv rfl) rfl), nR rfl rfl rfl rfl rfl (by exact ovE (nck rfl) rfl), nR rfl rfl rfl rfl rfl (by exact ovE (fad rfl Tryd.runUnderlying59 rfl Tryd.sizeOf27 rfl) rfl), nR rfl rfl rfl rfl rfl (by exact ovE (ldb 0 rfl hB2457 rfl rfl Tryd.isAgg27) rfl), nR rfl rfl rfl rfl rfl (by exact ovE (lenV rfl Tryd.runUnderlying27) rfl), nR rfl rfl rfl rfl rfl (by exact ovE (mv rfl) rfl), nR rfl rfl rfl rfl rfl (by exact ovE (bin rfl rfl rfl) rfl), nR rfl rfl rfl rfl rfl (by exact ovE (ixV rfl rfl Tryd.runUnderlying27 Tryd.sizeOf5 (hV2455.rd (i := 2) rfl) (fun _ => rfl) rfl hk2462) rfl), nR rfl rfl rfl rfl rfl (by exact ovE (ldV0 rfl (hV2455.rd (i := 2) rfl) (fun _ => rfl) hk2462 rfl Tryd.isAgg5) rfl), trivial⟩) (fun D l a w ho hcl hav hpre hm hE hk hA hst => ?_) ho hcl (fun j hj => (List.not_mem_nil hj).elim) (fun m hm => (List.not_mem_nil hm).elim) List.not_mem_nil hA hst
                    have hS := (Ss.mk hE hst).env2 (e' := [(108, .int .u8 (rd out2453 (w64 ((out2453.length : Int) - x2417))))]) ⟨rfl, trivial⟩
                    refine op_of_nth rfl ?_
                    refine bsl (g := (ci .u8)) ([(rd out2453 (w64 ((out2453.length : Int) - x2417)))] : List Int) [.int .u8 (rd out2453 (w64 ((out2453.length : Int) - x2417)))] hS Tryd.runUnderlying27 Tryd.sizeOf5 X.el5 rfl rfl rfl (by simp [Value.cells]) rfl rfl rfl rfl rfl fun w A2463 c2464 f2465 hV2466 hS => ?_
                    refine wpList_nil (then_n ?_)
                    have hcl2 := hcl.cons (k := 18) (nth_get rfl) hpre
                    have hmust := must_cons (k := 18) hm (chain (k := 18) hcl (nth_get rfl) hpre [(17, 18), (16, 17), (8, 16), (15, 16), (7, 8), (13, 15), (14, 15), (6, 7), (12, 13), (5, 6), (11, 12), (10, 11), (9, 10)] [] rfl (fun _ h => absurd h List.not_mem_nil))
                    replace hst := hS.st
                    have hav2 := hav.cons (vals' := [some (ptr b2358 0), some (ptr b2358 0), some (ptr b2358 0), some (ptr b2358 1), some (.slice A2451 out2453.length c2452), some (ptr b2358 0), some (ptr b2358 0), some (ptr b2358 1), some (.slice A2451 out2453.length c2452), some (ptr b2358 0), some (ptr b2358 0), some (ptr b2358 1), some (.slice A2451 out2453.length c2452), some (.int .i64 (out2453.length : Int)), some (.int .i64 x2417), some (.int .i64 (w64 ((out2453.length : Int) - x2417))), some (slp A2451 (Int.toNat (w64 ((out2453.length : Int) - x2417)) * 1)), some (.int .u8 (rd out2453 (w64 ((out2453.length : Int) - x2417)))), some (.slice A2463 ([(rd out2453 (w64 ((out2453.length : Int) - x2417)))] : List Int).length c2464), none, none, none, none]) (k := 18) ⟨rfl, rfl, rfl, rfl, rfl, rfl, rfl, rfl, rfl, rfl, rfl, rfl, rfl, rfl, rfl, rfl, rfl, rfl, trivial⟩ rfl
                    replace hA := (hA.next hav (subV.get (l' := [some (ptr b2358 0), some (ptr b2358 0), some (ptr b2358 0), some (ptr b2358 1), some (.slice A2451 out2453.length c2452), some (ptr b2358 0), some (ptr b2358 0), some (ptr b2358 1), some (.slice A2451 out2453.length c2452), some (ptr b2358 0), some (ptr b2358 0), some (ptr b2358 1), some (.slice A2451 out2453.length c2452), some (.int .i64 (out2453.length : Int)), some (.int .i64 x2417), some (.int .i64 (w64 ((out2453.length : Int) - x2417))), some (slp A2451 (Int.toNat (w64 ((out2453.length : Int) - x2417)) * 1)), some (.int .u8 (rd out2453 (w64 ((out2453.length : Int) - x2417)))), some (.slice A2463 ([(rd out2453 (w64 ((out2453.length : Int) - x2417)))] : List Int).length c2464), none, none, none, none]) ⟨rfl, rfl, rfl, rfl, rfl, rfl, rfl, rfl, rfl, rfl, rfl, rfl, rfl, rfl, rfl, rfl, rfl, rfl, trivial⟩)).step rfl (nth_get rfl) hk rfl rfl rfl
                    clear hm hav
                    replace hcl := hcl2
                    refine phase' (vals := [some (ptr b2358 0), some (ptr b2358 0), some (ptr b2358 0), some (ptr b2358 1), some (.slice A2451 out2453.length c2452), some (ptr b2358 0), some (ptr b2358 0), some (ptr b2358 1), some (.slice A2451 out2453.length c2452), some (ptr b2358 0), some (ptr b2358 0), some (ptr b2358 1), some (.slice A2451 out2453.length c2452), some (.int .i64 (out2453.length : Int)), some (.int .i64 x2417), some (.int .i64 (w64 ((out2453.length : Int) - x2417))), some (slp A2451 (Int.toNat (w64 ((out2453.length : Int) - x2417)) * 1)), some (.int .u8 (rd out2453 (w64 ((out2453.length : Int) - x2417)))), some (.slice A2463 ([(rd out2453 (w64 ((out2453.length : Int) - x2417)))] : List Int).length c2464), none, none, none, none]) 19 [18, 17, 16, 8, 15, 7, 13, 14, 6, 12, 5, 11, 10, 9] [0, 1, 2, 3, 4] rfl rfl rfl rfl (by exact ⟨nR rfl rfl rfl rfl rfl (by exact ovE (mv rfl) rfl), nR rfl rfl rfl rfl rfl (by exact ovE (mv rfl) rfl), nR rfl rfl rfl rfl rfl (by exact ovE (nck rfl) rfl), nR rfl rfl rfl rfl rfl (by exact ovE (fad rfl Tryd.runUnderlying59 rfl Tryd.sizeOf27 rfl) rfl), nR rfl rfl rfl rfl rfl (by exact ovE (ldb 1 rfl hB2457 rfl rfl Tryd.isAgg27) rfl), trivial⟩) (fun D l a w ho hcl hav hpre hm hE hk hA hst => ?_) ho hcl hav2 hmust (hav2.notin rfl) hA hst
                    have hS := (Ss.mk hE hst).env2 (e' := [(95, .slice A2451 out2453.length c2452), (109, .slice A2463 ([(rd out2453 (w64 ((out2453.length : Int) - x2417)))] : List Int).length c2464)]) ⟨rfl, rfl, trivial⟩
                    refine op_of_nth rfl ?_
                    obtain ⟨hk2467, hM⟩ := wp_chk hM
                    refine apV (ys := ([(rd out2453 (w64 ((out2453.length : Int) - x2417)))] : List Int)) 3 hS rfl rfl hV2455 rfl (hV2466.rd (i := 0) rfl) Tryd.runUnderlying27 Tryd.runUnderlying27 X.el5 (fun _ => rfl) rfl one_t5 hk2467 rfl fun zs2472 w A2468 c2469 f2470 hz hV2471 hS => ?_
                    have hM := lt_to hz hM; clear hz
                    refine wpList_nil (then_n ?_)
                    have hcl2 := hcl.cons (k := 19) (nth_get rfl) hpre
                    have hmust := must_cons (k := 19) hm (chain (k := 19) hcl (nth_get rfl) hpre [(4, 19), (18, 19), (3, 4), (17, 18), (2, 3), (16, 17), (1, 2), (8, 16), (15, 16), (7, 8), (13, 15), (14, 15), (6, 7), (12, 13), (5, 6), (11, 12), (10, 11), (9, 10)] [] rfl (fun _ h => absurd h List.not_mem_nil))
                    replace hst := hS.st
                    have hav2 := hav.cons (vals' := [some (ptr b2358 0), some (ptr b2358 0), some (ptr b2358 0), some (ptr b2358 1), some (.slice A2451 out2453.length c2452), some (ptr b2358 0), some (ptr b2358 0), some (ptr b2358 1), some (.slice A2451 out2453.length c2452), some (ptr b2358 0), some (ptr b2358 0), some (ptr b2358 1), some (.slice A2451 out2453.length c2452), some (.int .i64 (out2453.length : Int)), some (.int .i64 x2417), some (.int .i64 (w64 ((out2453.length : Int) - x2417))), some (slp A2451 (Int.toNat (w64 ((out2453.length : Int) - x2417)) * 1)), some (.int .u8 (rd out2453 (w64 ((out2453.length : Int) - x2417)))), some (.slice A2463 ([(rd out2453 (w64 ((out2453.length : Int) - x2417)))] : List Int).length c2464), some (.slice A2468 zs2472.length c2469), some (ptr b2358 0), some (ptr b2358 1), none]) (k := 19) ⟨rfl, rfl, rfl, rfl, rfl, rfl, rfl, rfl, rfl, rfl, rfl, rfl, rfl, rfl, rfl, rfl, rfl, rfl, rfl, trivial⟩ rfl
                    replace hA := (hA.next hav (subV.get (l' := [some (ptr b2358 0), some (ptr b2358 0), some (ptr b2358 0), some (ptr b2358 1), some (.slice A2451 out2453.length c2452), some (ptr b2358 0), some (ptr b2358 0), some (ptr b2358 1), some (.slice A2451 out2453.length c2452), some (ptr b2358 0), some (ptr b2358 0), some (ptr b2358 1), some (.slice A2451 out2453.length c2452), some (.int .i64 (out2453.length : Int)), some (.int .i64 x2417), some (.int .i64 (w64 ((out2453.length : Int) - x2417))), some (slp A2451 (Int.toNat (w64 ((out2453.length : Int) - x2417)) * 1)), some (.int .u8 (rd out2453 (w64 ((out2453.length : Int) - x2417)))), some (.slice A2463 ([(rd out2453 (w64 ((out2453.length : Int) - x2417)))] : List Int).length c2464), some (.slice A2468 zs2472.length c2469), some (ptr b2358 0), some (ptr b2358 1), none]) ⟨rfl, rfl, rfl, rfl, rfl, rfl, rfl, rfl, rfl, rfl, rfl, rfl, rfl, rfl, rfl, rfl, rfl, rfl, rfl, trivial⟩)).step rfl (nth_get rfl) hk rfl rfl rfl
                    clear hm hav
                    replace hcl := hcl2
                    refine phase' (vals := [some (ptr b2358 0), some (ptr b2358 0), some (ptr b2358 0), some (ptr b2358 1), some (.slice A2451 out2453.length c2452), some (ptr b2358 0), some (ptr b2358 0), some (ptr b2358 1), some (.slice A2451 out2453.length c2452), some (ptr b2358 0), some (ptr b2358 0), some (ptr b2358 1), some (.slice A2451 out2453.length c2452), some (.int .i64 (out2453.length : Int)), some (.int .i64 x2417), some (.int .i64 (w64 ((out2453.length : Int) - x2417))), some (slp A2451 (Int.toNat (w64 ((out2453.length : Int) - x2417)) * 1)), some (.int .u8 (rd out2453 (w64 ((out2453.length : Int) - x2417)))), some (.slice A2463 ([(rd out2453 (w64 ((out2453.length : Int) - x2417)))] : List Int).length c2464), some (.slice A2468 zs2472.length c2469), some (ptr b2358 0), some (ptr b2358 1), none]) 22 [19, 4, 18, 3, 17, 2, 16, 1, 8, 15, 7, 13, 14, 6, 12, 5, 11, 10, 9, 18, 17, 16, 8, 15, 7, 13, 14, 6, 12, 5, 11, 10, 9] [0, 20, 21] rfl rfl rfl rfl (by exact ⟨nR rfl rfl rfl rfl rfl (by exact ovE (mv rfl) rfl), nR rfl rfl rfl rfl rfl (by exact ovE (nck rfl) rfl), nR rfl rfl rfl rfl rfl (by exact ovE (fad rfl Tryd.runUnderlying59 rfl Tryd.sizeOf27 rfl) rfl), trivial⟩) (fun D l a w ho hcl hav hpre hm hE hk hA hst => ?_) ho hcl hav2 hmust (hav2.notin rfl) hA hst
                    have hS := (Ss.mk hE hst).env2 (e' := [(110, .slice A2468 zs2472.length c2469), (112, ptr b2358 1)]) ⟨rfl, rfl, trivial⟩
                    refine op_of_nth rfl ?_
                    refine sto 1 ([ptr b2361 0, .slice A2468 zs2472.length c2469, .int .i64 s2357.limit_]) hS rfl rfl hB2457 rfl rfl rfl rfl Tryd.sizeOf27 fun w f2473 hB2474 hS => ?_
                    refine wpList_nil (then_n ?_)
                    have hcl2 := hcl.cons (k := 22) (nth_get rfl) hpre
                    have hmust := must_cons (k := 22) hm (chain (k := 22) hcl (nth_get rfl) hpre [(0, 22), (1, 22), (2, 22), (3, 22), (4, 22), (5, 22), (6, 22), (7, 22), (8, 22), (9, 22), (10, 22), (11, 22), (12, 22), (13, 22), (14, 22), (15, 22), (16, 22), (17, 22), (18, 22), (19, 22), (21, 22), (20, 21)] [] rfl (fun _ h => absurd h List.not_mem_nil))
                    replace hst := hS.st
                    have hav2 := hav.cons (vals' := [some (ptr b2358 0), some (ptr b2358 0), some (ptr b2358 0), some (ptr b2358 1), some (.slice A2451 out2453.length c2452), some (ptr b2358 0), some (ptr b2358 0), some (ptr b2358 1), some (.slice A2451 out2453.length c2452), some (ptr b2358 0), some (ptr b2358 0), some (ptr b2358 1), some (.slice A2451 out2453.length c2452), some (.int .i64 (out2453.length : Int)), some (.int .i64 x2417), some (.int .i64 (w64 ((out2453.length : Int) - x2417))), some (slp A2451 (Int.toNat (w64 ((out2453.length : Int) - x2417)) * 1)), some (.int .u8 (rd out2453 (w64 ((out2453.length : Int) - x2417)))), some (.slice A2463 ([(rd out2453 (w64 ((out2453.length : Int) - x2417)))] : List Int).length c2464), some (.slice A2468 zs2472.length c2469), some (ptr b2358 0), some (ptr b2358 1), some undef]) (k := 22) ⟨rfl, rfl, rfl, rfl, rfl, rfl, rfl, rfl, rfl, rfl, rfl, rfl, rfl, rfl, rfl, rfl, rfl, rfl, rfl, rfl, rfl, rfl, trivial⟩ rfl
                    replace hA := (hA.next hav (subV.get (l' := [some (ptr b2358 0), some (ptr b2358 0), some (ptr b2358 0), some (ptr b2358 1), some (.slice A2451 out2453.length c2452), some (ptr b2358 0), some (ptr b2358 0), some (ptr b2358 1), some (.slice A2451 out2453.length c2452), some (ptr b2358 0), some (ptr b2358 0), some (ptr b2358 1), some (.slice A2451 out2453.length c2452), some (.int .i64 (out2453.length : Int)), some (.int .i64 x2417), some (.int .i64 (w64 ((out2453.length : Int) - x2417))), some (slp A2451 (Int.toNat (w64 ((out2453.length : Int) - x2417)) * 1)), some (.int .u8 (rd out2453 (w64 ((out2453.length : Int) - x2417)))), some (.slice A2463 ([(rd out2453 (w64 ((out2453.length : Int) - x2417)))] : List Int).length c2464), some (.slice A2468 zs2472.length c2469), some (ptr b2358 0), some (ptr b2358 1), some undef]) ⟨rfl, rfl, rfl, rfl, rfl, rfl, rfl, rfl, rfl, rfl, rfl, rfl, rfl, rfl, rfl, rfl, rfl, rfl, rfl, rfl, rfl, rfl, trivial⟩)).stepN (i := 22) (nth_get rfl) rfl
                    clear hm hav
                    replace hcl := hcl2
                    refine phaseE (vals := [some (ptr b2358 0), some (ptr b2358 0), some (ptr b2358 0), some (ptr b2358 1), some (.slice A2451 out2453.length c2452), some (ptr b2358 0), some (ptr b2358 0), some (ptr b2358 1), some (.slice A2451 out2453.length c2452), some (ptr b2358 0), some (ptr b2358 0), some (ptr b2358 1), some (.slice A2451 out2453.length c2452), some (.int .i64 (out2453.length : Int)), some (.int .i64 x2417), some (.int .i64 (w64 ((out2453.length : Int) - x2417))), some (slp A2451 (Int.toNat (w64 ((out2453.length : Int) - x2417)) * 1)), some (.int .u8 (rd out2453 (w64 ((out2453.length : Int) - x2417)))), some (.slice A2463 ([(rd out2453 (w64 ((out2453.length : Int) - x2417)))] : List Int).length c2464), some (.slice A2468 zs2472.length c2469), some (ptr b2358 0), some (ptr b2358 1), some undef]) [22, 0, 1, 2, 3, 4, 5, 6, 7, 8, 9, 10, 11, 12, 13, 14, 15, 16, 17, 18, 19, 21, 20, 19, 4, 18, 3, 17, 2, 16, 1, 8, 15, 7, 13, 14, 6, 12, 5, 11, 10, 9, 18, 17, 16, 8, 15, 7, 13, 14, 6, 12, 5, 11, 10, 9] [] rfl rfl rfl trivial (fun a w hS => ?_) ho hcl hmust hA hst
                    replace hS := hS.env2 (e' := [(0, ptr b2358 0), (9, .int .i64 x2394), (15, .int .i64 x2417), (17, .int .i64 i2458)]) ⟨rfl, rfl, rfl, rfl, trivial⟩
                    refine blk_n (then_n ?_)
                    refine wp_region_list ?_
                    refine st1 hS (mv rfl) rfl fun a w hS => ?_
                    refine st1 hS (bin rfl rfl rfl) rfl fun a w hS => ?_
                    refine st1x (v := Value.int .i64) hS (asg rfl) rfl fun i2475 a w hz hS => ?_
                    have hM := lt_to hz hM; clear hz
                    refine wpList_nil ?_
                    refine then_n ?_
                    exact hJ2476 _ _ ⟨A2468, c2469, zs2472, f2470, f2473, i2475, hS.to [1, 2, 3] (by kernel_rfl) ⟨rfl, rfl, rfl, rfl, trivial⟩, hV2471, hB2474, hM⟩
                  · refine wp_exit ?_
                    refine then_ex (then_ex (blk_same (then_n ?_)))
                    refine wp_seq ?_
                    refine wp_region_list ?_
                    refine st1 hS (asg rfl) rfl fun a w hS => ?_
                    refine wpList_nil ?_
                    refine then_n ?_
                    refine wp_ret ?_
                    exact s_ret (rs := [6]) hS rfl rfl (hret (0 : Int) at_2419 f2420 A2451 c2452 out2453 f2454 f2456 w hM h2421 hV2455 hB2457 (hS.st.pick [0, 1, 2] (by kernel_rfl)))

theorem mortiseref07_state_symbols_c {H : Imm} {F : List Frag} {w : World} {R : Ending → World → Prop} {kr : (Int × Int × (List Int)) → Prop} {kp : Value → Prop} (hG : Gl H) (K : Nat) (s2186 : T_mortiseref07_state) (literals2197 : T_mortiseref07_code) (distances2206 : T_mortiseref07_code) (b2187 : Nat) (f2188 : Frag) (b2190 : Nat) (f2191 : Frag) (A2193 : Option Addr) (c2194 : Nat) (f2195 : Frag) (A2198 : Option Addr) (c2199 : Nat) (A2202 : Option Addr) (c2203 : Nat) (A2207 : Option Addr) (c2208 : Nat) (A2211 : Option Addr) (c2212 : Nat) (hB2189 : Blk f2188 b2187 ([ptr b2190 0, .slice A2193 s2186.out_.length c2194, .int .i64 s2186.limit_]) 59) (hB2192 : Blk f2191 b2190 ([str s2186.r_.S_, .int .i64 s2186.r_.At_]) 57) (hV2196 : Vec 5 (ci .u8) 1 A2193 s2186.out_ c2194 f2195) (hr2200 : Rdl H [] F (ci .i64) A2198 literals2197.l_) (hc2201 : literals2197.l_.length ≤ c2199) (hr2204 : Rdl H [] F (ci .i64) A2202 literals2197.codes_) (hc2205 : literals2197.codes_.length ≤ c2203) (hr2209 : Rdl H [] F (ci .i64) A2207 distances2206.l_) (hc2210 : distances2206.l_.length ≤ c2208) (hr2213 : Rdl H [] F (ci .i64) A2211 distances2206.codes_) (hc2214 : distances2206.codes_.length ≤ c2212)
    (hS : St w H [f2188, f2191, f2195] F) (hm : (mortiseref07_state_symbols.m K s2186 literals2197 distances2206).wp kr kp)
    (hret : ∀ (x2555 : Int) (at_2556 : Int) (f2557 : Frag) (A2559 : Option Addr) (c2560 : Nat) (out2561 : (List Int)) (f2562 : Frag) (f2564 : Frag) (w : World), kr (x2555, at_2556, out2561) → (Blk f2557 b2190 ([str s2186.r_.S_, .int .i64 at_2556]) 57) → (Vec 5 (ci .u8) 1 A2559 out2561 c2560 f2562) → (Blk f2564 b2187 ([ptr b2190 0, .slice A2559 out2561.length c2560, .int .i64 s2186.limit_]) 59) → St w H [f2564, f2557, f2562] F → R (.returned (.int .i64 x2555)) w) :
    Calls Tryd.prog 37 ⟨[ptr b2187 0, .agg ⟨[.slice A2198 literals2197.l_.length c2199, .slice A2202 literals2197.codes_.length c2203]⟩, .agg ⟨[.slice A2207 distances2206.l_.length c2208, .slice A2211 distances2206.codes_.length c2212]⟩]⟩ w R := by
  refine enter Tryd.func37 rfl Tryd.ntmps37 rfl hS fun a w hS => ?_
  have hM := hm; clear hm
  rw [mortiseref07_state_symbols.m] at hM
  refine wp_seq ?_
  refine wp_region_list ?_
  refine bx ([.slice A2198 literals2197.l_.length c2199, .slice A2202 literals2197.codes_.length c2203]) hS rfl rfl rfl fun w b2215 f2216 hB2217 hS => ?_
  refine bx ([.slice A2207 distances2206.l_.length c2208, .slice A2211 distances2206.codes_.length c2212]) hS rfl rfl rfl fun w b2218 f2219 hB2220 hS => ?_
  refine st1 hS (asg rfl) rfl fun a w hS => ?_
  refine wpList_nil ?_
  refine then_n ?_
  refine wp_block ?_
  refine s_loopJ (fun k2520 a w => ∃ (at_2510 : Int) (f2511 : Frag) (A2513 : Option Addr) (c2514 : Nat) (out2515 : (List Int)) (f2516 : Frag) (f2518 : Frag), Ss 57 [] [(0, ptr b2187 0), (4, ptr b2215 0), (5, ptr b2218 0)] H [f2518, f2511, f2516, f2216, f2219] F a w ∧ (Blk f2511 b2190 ([str s2186.r_.S_, .int .i64 at_2510]) 57) ∧ (Vec 5 (ci .u8) 1 A2513 out2515 c2514 f2516) ∧ (Blk f2518 b2187 ([ptr b2190 0, .slice A2513 out2515.length c2514, .int .i64 s2186.limit_]) 59) ∧ (mortiseref07_state_symbols.l1 K s2186 literals2197 distances2206 k2520 at_2510 out2515).wp kr kp) K ?_ ?_ ?_
  · exact ⟨s2186.r_.At_, f2191, A2193, c2194, s2186.out_, f2195, f2188, hS.to [2, 3, 4, 1, 0] (by kernel_rfl) ⟨rfl, rfl, rfl, trivial⟩, hB2192, hV2196, hB2189, hM⟩
  · intro a w hI; obtain ⟨_, _, _, _, _, _, _, _, _, _, _, hM⟩ := hI; exact hM
  · intro k2520 a w hI J2554 hJ2554
    obtain ⟨at_2510, f2511, A2513, c2514, out2515, f2516, f2518, hS, hB2512, hV2517, hB2519, hM⟩ := hI
    rw [mortiseref07_state_symbols.l1] at hM
    refine wp_block ?_
    refine wp_seq ?_
    refine draw_begin (vals := [some (ptr b2215 0), some (.slice A2198 literals2197.l_.length c2199), some (ptr b2215 1), some (.slice A2202 literals2197.codes_.length c2203), some (ptr b2187 0), some (ptr b2187 0), some (ptr b2187 0), some (ptr b2190 0), none, none, none, none, none, none]) hS mixed rfl ?_
    intro l w ho hcl hA hst
    refine phase' (vals := [some (ptr b2215 0), some (.slice A2198 literals2197.l_.length c2199), some (ptr b2215 1), some (.slice A2202 literals2197.codes_.length c2203), some (ptr b2187 0), some (ptr b2187 0), some (ptr b2187 0), some (ptr b2190 0), none, none, none, none, none, none]) 8 [] [0, 1, 2, 3, 4, 5, 6, 7] rfl rfl rfl rfl (by exact ⟨nR rfl rfl rfl rfl rfl (by exact ovE (fad rfl Tryd.runUnderlying78 rfl Tryd.sizeOf74 rfl) rfl), nR rfl rfl rfl rfl rfl (by exact ovE (ldb 3 rfl hB2217 rfl rfl Tryd.isAgg74) rfl), nR rfl rfl rfl rfl rfl (by exact ovE (fad rfl Tryd.runUnderlying78 rfl Tryd.sizeOf74 rfl) rfl), nR rfl rfl rfl rfl rfl (by exact ovE (ldb 3 rfl hB2217 rfl rfl Tryd.isAgg74) rfl), nR rfl rfl rfl rfl rfl (by exact ovE (mv rfl) rfl), nR rfl rfl rfl rfl rfl (by exact ovE (nck rfl) rfl), nR rfl rfl rfl rfl rfl (by exact ovE (fad rfl Tryd.runUnderlying59 rfl Tryd.sizeOf55 rfl) rfl), nR rfl rfl rfl rfl rfl (by exact ovE (ldb 0 rfl hB2519 rfl rfl Tryd.isAgg55) rfl), trivial⟩) (fun D l a w ho hcl hav hpre hm hE hk hA hst => ?_) ho hcl (fun j hj => (List.not_mem_nil hj).elim) (fun m hm => (List.not_mem_nil hm).elim) List.not_mem_nil hA hst
    have hS := (Ss.mk hE hst).env2 (e' := [(12, .slice A2198 literals2197.l_.length c2199), (14, .slice A2202 literals2197.codes_.length c2203), (18, ptr b2190 0)]) ⟨rfl, rfl, rfl, trivial⟩
    refine op_of_nth rfl ?_
    refine s_call hS rfl Tryd.call49 (mortiseref06_Next_c hG K literals2197.l_ literals2197.codes_ (T_mortiseref05_Reader.mk s2186.r_.S_ at_2510) A2198 c2199 A2202 c2203 b2190 f2511 (hr2200.app _) hc2201 (hr2204.app _) hc2205 hB2512 (hS.st.part 1 [1, 0, 2, 3, 4] (by kernel_rfl)) (wp_bind hM) (fun x2521 x2522 at_2523 f2524 w hM h2525 hst => s_back hS.ev hst.appF rfl fun hS => ?_))
    replace hS : Ss _ _ _ H [f2524, f2518, f2516, f2216, f2219] F _ _ := hS
    refine wpList_nil (then_n ?_)
    have hcl2 := hcl.cons (k := 8) (nth_get rfl) hpre
    have hmust := must_cons (k := 8) hm (chain (k := 8) hcl (nth_get rfl) hpre [(1, 8), (3, 8), (7, 8), (0, 1), (2, 3), (6, 7), (5, 6), (4, 5)] [] rfl (fun _ h => absurd h List.not_mem_nil))
    replace hst := hS.st
    have hav2 := hav.cons (vals' := [some (ptr b2215 0), some (.slice A2198 literals2197.l_.length c2199), some (ptr b2215 1), some (.slice A2202 literals2197.codes_.length c2203), some (ptr b2187 0), some (ptr b2187 0), some (ptr b2187 0), some (ptr b2190 0), some (.tuple ⟨[.int .i64 x2521, .int .i64 x2522]⟩), some (.tuple ⟨[.int .i64 x2521, .int .i64 x2522]⟩), some (.int .i64 x2521), some (.int .i64 x2522), some (.int .i64 x2521), some (.int .i64 x2522)]) (k := 8) ⟨rfl, rfl, rfl, rfl, rfl, rfl, rfl, rfl, trivial⟩ rfl
    replace hA := (hA.next hav (subV.get (l' := [some (ptr b2215 0), some (.slice A2198 literals2197.l_.length c2199), some (ptr b2215 1), some (.slice A2202 literals2197.codes_.length c2203), some (ptr b2187 0), some (ptr b2187 0), some (ptr b2187 0), some (ptr b2190 0), some (.tuple ⟨[.int .i64 x2521, .int .i64 x2522]⟩), some (.tuple ⟨[.int .i64 x2521, .int .i64 x2522]⟩), some (.int .i64 x2521), some (.int .i64 x2522), some (.int .i64 x2521), some (.int .i64 x2522)]) ⟨rfl, rfl, rfl, rfl, rfl, rfl, rfl, rfl, trivial⟩)).step rfl (nth_get rfl) hk rfl rfl rfl
    clear hm hav
    replace hcl := hcl2
    refine phaseE (vals := [some (ptr b2215 0), some (.slice A2198 literals2197.l_.length c2199), some (ptr b2215 1), some (.slice A2202 literals2197.codes_.length c2203), some (ptr b2187 0), some (ptr b2187 0), some (ptr b2187 0), some (ptr b2190 0), some (.tuple ⟨[.int .i64 x2521, .int .i64 x2522]⟩), some (.tuple ⟨[.int .i64 x2521, .int .i64 x2522]⟩), some (.int .i64 x2521), some (.int .i64 x2522), some (.int .i64 x2521), some (.int .i64 x2522)]) [8, 1, 3, 7, 0, 2, 6, 5, 4] [9, 10, 11, 12, 13] rfl rfl rfl (by exact ⟨nR rfl rfl rfl rfl rfl (by exact ovE (mv rfl) rfl), nR rfl rfl rfl rfl rfl (by exact ovE (ex rfl rfl) rfl), nR rfl rfl rfl rfl rfl (by exact ovE (ex rfl rfl) rfl), nR rfl rfl rfl rfl rfl (by exact ovE (asg rfl) rfl), nR rfl rfl rfl rfl rfl (by exact ovE (asg rfl) rfl), trivial⟩) (fun a w hS => ?_) ho hcl hmust hA hst
    replace hS := hS.env2 (e' := [(0, ptr b2187 0), (4, ptr b2215 0), (5, ptr b2218 0), (7, .int .i64 x2521), (8, .int .i64 x2522)]) ⟨rfl, rfl, rfl, rfl, rfl, trivial⟩
    refine then_n ?_
    refine wp_seq ?_
    refine wp_seq ?_
    refine wp_region_list ?_
    refine st1 hS (mv rfl) rfl fun a w hS => ?_
    refine st1 hS (bin rfl rfl rfl) rfl fun a w hS => ?_
    refine wpList_nil ?_
    refine then_n ?_
    refine s_cond hS rfl hM (fun hb2526 hM => ?_) (fun hb2526 hM => ?_)
    · refine wp_seq ?_
      refine wp_region_list ?_
      refine st1 hS (mv rfl) rfl fun a w hS => ?_
      refine st1 hS (asg rfl) rfl fun a w hS => ?_
      refine wpList_nil ?_
      refine then_n ?_
      refine wp_ret ?_
      refine then_ret (blk_ret (then_ret (blk_ret ?_)))
      exact s_ret (rs := [6]) hS rfl rfl (hret x2522 at_2523 f2524 A2513 c2514 out2515 f2516 f2518 w hM h2525 hV2517 hB2519 (hS.st.pick [1, 0, 2] (by kernel_rfl)))
    · refine wp_skip ?_
      refine then_n ?_
      refine wp_seq ?_
      refine wp_seq ?_
      refine wp_region_list ?_
      refine st1 hS (mv rfl) rfl fun a w hS => ?_
      refine st1 hS (bin rfl rfl rfl) rfl fun a w hS => ?_
      refine wpList_nil ?_
      refine then_n ?_
      refine s_cond hS rfl hM (fun hb2527 hM => ?_) (fun hb2527 hM => ?_)
      · refine wp_seq ?_
        refine wp_region_list ?_
        refine st1 hS (asg rfl) rfl fun a w hS => ?_
        refine wpList_nil ?_
        refine then_n ?_
        refine wp_ret ?_
        refine then_ret (blk_ret (then_ret (blk_ret ?_)))
        exact s_ret (rs := [6]) hS rfl rfl (hret (0 : Int) at_2523 f2524 A2513 c2514 out2515 f2516 f2518 w hM h2525 hV2517 hB2519 (hS.st.pick [1, 0, 2] (by kernel_rfl)))
      · refine wp_skip ?_
        refine then_n ?_
        refine wp_seq ?_
        refine wp_seq ?_
        refine wp_region_list ?_
        refine st1 hS (mv rfl) rfl fun a w hS => ?_
        refine st1 hS (bin rfl rfl rfl) rfl fun a w hS => ?_
        refine wpList_nil ?_
        refine then_n ?_
        refine s_cond hS rfl hM (fun hb2528 hM => ?_) (fun hb2528 hM => ?_)
        · refine wp_seq ?_
          refine wp_seq ?_
          refine draw_begin (vals := [some (ptr b2187 0), some (ptr b2187 0), some (ptr b2187 1), some (.slice A2513 out2515.length c2514), some (.int .i64 (out2515.length : Int)), some (ptr b2187 0), some (ptr b2187 0), some (ptr b2187 2), some (.int .i64 s2186.limit_), some (.bool (decide ((out2515.length : Int) ≥ s2186.limit_)))]) hS mixed rfl ?_
          intro l w ho hcl hA hst
          refine phaseE (vals := [some (ptr b2187 0), some (ptr b2187 0), some (ptr b2187 1), some (.slice A2513 out2515.length c2514), some (.int .i64 (out2515.length : Int)), some (ptr b2187 0), some (ptr b2187 0), some (ptr b2187 2), some (.int .i64 s2186.limit_), some (.bool (decide ((out2515.length : Int) ≥ s2186.limit_)))]) [] [0, 1, 2, 3, 4, 5, 6, 7, 8, 9] rfl rfl rfl (by exact ⟨nR rfl rfl rfl rfl rfl (by exact ovE (mv rfl) rfl), nR rfl rfl rfl rfl rfl (by exact ovE (nck rfl) rfl), nR rfl rfl rfl rfl rfl (by exact ovE (fad rfl Tryd.runUnderlying59 rfl Tryd.sizeOf27 rfl) rfl), nR rfl rfl rfl rfl rfl (by exact ovE (ldb 1 rfl hB2519 rfl rfl Tryd.isAgg27) rfl), nR rfl rfl rfl rfl rfl (by exact ovE (lenV rfl Tryd.runUnderlying27) rfl), nR rfl rfl rfl rfl rfl (by exact ovE (mv rfl) rfl), nR rfl rfl rfl rfl rfl (by exact ovE (nck rfl) rfl), nR rfl rfl rfl rfl rfl (by exact ovE (fad rfl Tryd.runUnderlying59 rfl Tryd.sizeOf3 rfl) rfl), nR rfl rfl rfl rfl rfl (by exact ovE (ldb 1 rfl hB2519 rfl rfl Tryd.isAgg3) rfl), nR rfl rfl rfl rfl rfl (by exact ovE (bin rfl rfl rfl) rfl), trivial⟩) (fun a w hS => ?_) ho hcl (fun m hm => (List.not_mem_nil hm).elim) hA hst
          replace hS := hS.env2 (e' := [(0, ptr b2187 0), (4, ptr b2215 0), (5, ptr b2218 0), (7, .int .i64 x2521), (38, .bool (decide ((out2515.length : Int) ≥ s2186.limit_)))]) ⟨rfl, rfl, rfl, rfl, rfl, trivial⟩
          refine then_n ?_
          refine s_cond hS rfl hM (fun hb2529 hM => ?_) (fun hb2529 hM => ?_)
          · refine wp_seq ?_
            refine wp_region_list ?_
            refine st1 hS (asg rfl) rfl fun a w hS => ?_
            refine wpList_nil ?_
            refine then_n ?_
            refine wp_ret ?_
            refine then_ret (then_ret (blk_ret (then_ret (blk_ret ?_))))
            exact s_ret (rs := [6]) hS rfl rfl (hret (11 : Int) at_2523 f2524 A2513 c2514 out2515 f2516 f2518 w hM h2525 hV2517 hB2519 (hS.st.pick [1, 0, 2] (by kernel_rfl)))
          · refine wp_skip ?_
            refine then_n ?_
            refine wp_seq ?_
            refine wp_region_list ?_
            refine st1 hS (mv rfl) rfl fun a w hS => ?_
            refine st1 hS (mv rfl) rfl fun a w hS => ?_
            refine st1 hS (nck rfl) rfl fun a w hS => ?_
            refine st1 hS (fad rfl Tryd.runUnderlying59 rfl Tryd.sizeOf27 rfl) rfl fun a w hS => ?_
            refine st1 hS (ldb 1 rfl hB2519 rfl rfl Tryd.isAgg27) rfl fun a w hS => ?_
            refine st1 hS (mv rfl) rfl fun a w hS => ?_
            refine st1 hS (cvi rfl Tryd.runUnderlying3 Tryd.runUnderlying5) rfl fun a w hS => ?_
            refine bsl (g := (ci .u8)) ([(wr .u8 x2521)] : List Int) [.int .u8 (wr .u8 x2521)] hS Tryd.runUnderlying27 Tryd.sizeOf5 X.el5 rfl rfl rfl (by simp [Value.cells]) rfl rfl rfl rfl rfl fun w A2530 c2531 f2532 hV2533 hS => ?_
            obtain ⟨hk2534, hM⟩ := wp_chk hM
            refine apV (ys := ([(wr .u8 x2521)] : List Int)) 3 hS rfl rfl hV2517 rfl (hV2533.rd (i := 0) rfl) Tryd.runUnderlying27 Tryd.runUnderlying27 X.el5 (fun _ => rfl) rfl one_t5 hk2534 rfl fun zs2539 w A2535 c2536 f2537 hz hV2538 hS => ?_
            have hM := lt_to hz hM; clear hz
            refine st1 hS (nck rfl) rfl fun a w hS => ?_
            refine st1 hS (fad rfl Tryd.runUnderlying59 rfl Tryd.sizeOf27 rfl) rfl fun a w hS => ?_
            refine sto 2 ([ptr b2190 0, .slice A2535 zs2539.length c2536, .int .i64 s2186.limit_]) hS rfl rfl hB2519 rfl rfl rfl rfl Tryd.sizeOf27 fun w f2540 hB2541 hS => ?_
            refine wpList_nil ?_
            refine then_n ?_
            refine wp_exit ?_
            refine then_ex (blk_same (then_n ?_))
            exact hJ2554 _ _ ⟨at_2523, f2524, A2535, c2536, zs2539, f2537, f2540, hS.to [2, 1, 3, 4, 5] (by kernel_rfl) ⟨rfl, rfl, rfl, trivial⟩, h2525, hV2538, hB2541, hM⟩
        · refine wp_skip ?_
          refine then_n ?_
          refine wp_seq ?_
          refine wp_region_list ?_
          refine st1 hS (mv rfl) rfl fun a w hS => ?_
          refine st1 hS (mv rfl) rfl fun a w hS => ?_
          refine st1 hS (ldbA 4 rfl hB2220 rfl ([.slice A2207 distances2206.l_.length c2208, .slice A2211 distances2206.codes_.length c2212]) rfl rfl Tryd.isAgg78 Tryd.sizeOf78) rfl fun a w hS => ?_
          refine s_call hS rfl Tryd.call50 (mortiseref07_state_match_c hG K (T_mortiseref07_state.mk (T_mortiseref05_Reader.mk s2186.r_.S_ at_2523) out2515 s2186.limit_) x2521 distances2206 b2187 f2518 b2190 f2524 A2513 c2514 f2516 A2207 c2208 A2211 c2212 hB2519 h2525 hV2517 (hr2209.app _) hc2210 (hr2213.app _) hc2214 (hS.st.part 3 [1, 0, 2, 3, 4] (by kernel_rfl)) (wp_bind hM) (fun x2542 at_2543 f2544 A2545 c2546 out2547 f2548 f2549 w hM h2550 h2551 h2552 hst => s_back hS.ev hst.appF rfl fun hS => ?_))
          replace hS : Ss _ _ _ H [f2549, f2544, f2548, f2216, f2219] F _ _ := hS
          refine st1 hS (asg rfl) rfl fun a w hS => ?_
          refine wpList_nil ?_
          refine then_n ?_
          refine wp_seq ?_
          refine wp_region_list ?_
          refine st1 hS (mv rfl) rfl fun a w hS => ?_
          refine st1 hS (bin rfl rfl rfl) rfl fun a w hS => ?_
          refine wpList_nil ?_
          refine then_n ?_
          refine s_cond hS rfl hM (fun hb2553 hM => ?_) (fun hb2553 hM => ?_)
          · refine wp_seq ?_
            refine wp_region_list ?_
            refine st1 hS (mv rfl) rfl fun a w hS => ?_
            refine st1 hS (asg rfl) rfl fun a w hS => ?_
            refine wpList_nil ?_
            refine then_n ?_
            refine wp_ret ?_
            refine blk_ret (then_ret (blk_ret ?_))
            exact s_ret (rs := [6]) hS rfl rfl (hret x2542 at_2543 f2544 A2545 c2546 out2547 f2548 f2549 w hM h2550 h2551 h2552 (hS.st.pick [0, 1, 2] (by kernel_rfl)))
          · refine wp_skip ?_
            refine blk_n (then_n ?_)
            exact hJ2554 _ _ ⟨at_2543, f2544, A2545, c2546, out2547, f2548, f2549, hS.to [0, 1, 2, 3, 4] (by kernel_rfl) ⟨rfl, rfl, rfl, trivial⟩, h2550, h2551, h2552, hM⟩

theorem mortiseref07_Order_c {H : Imm} {F : List Frag} {w : World} {R : Ending → World → Prop} {kr : Unit → Prop} {kp : Value → Prop} (hG : Gl H) (K : Nat)
    (hS : St w H [] F) (hm : (mortiseref07_Order.m K).wp kr kp)
    (hret : ∀ (A2664 : Option Addr) (c2665 : Nat) (f2666 : Frag) (w : World), kr () → (Vec 3 (ci .i64) 1 A2664 ([(16 : Int), (17 : Int), (18 : Int), (0 : Int), (8 : Int), (7 : Int), (9 : Int), (6 : Int), (10 : Int), (5 : Int), (11 : Int), (4 : Int), (12 : Int), (3 : Int), (13 : Int), (2 : Int), (14 : Int), (1 : Int), (15 : Int)] : List Int) c2665 f2666) → St w H [f2666] F → R (.returned (.slice A2664 ([(16 : Int), (17 : Int), (18 : Int), (0 : Int), (8 : Int), (7 : Int), (9 : Int), (6 : Int), (10 : Int), (5 : Int), (11 : Int), (4 : Int), (12 : Int), (3 : Int), (13 : Int), (2 : Int), (14 : Int), (1 : Int), (15 : Int)] : List Int).length c2665)) w) :
    Calls Tryd.prog 60 ⟨[]⟩ w R := by
  refine enter Tryd.func60 rfl Tryd.ntmps60 rfl hS fun a w hS => ?_
  have hM := hm; clear hm
  rw [mortiseref07_Order.m] at hM
  refine wp_seq ?_
  refine wp_region_list ?_
  refine st1 hS (asg rfl) rfl fun a w hS => ?_
  obtain ⟨f2658, hV2659, hS⟩ := hS.nilV 3 (ci .i64) 1
  refine wpList_nil ?_
  refine then_n ?_
  refine wp_seq ?_
  refine wp_region_list ?_
  refine bsl (g := (ci .i64)) ([(16 : Int), (17 : Int), (18 : Int), (0 : Int), (8 : Int), (7 : Int), (9 : Int), (6 : Int), (10 : Int), (5 : Int), (11 : Int), (4 : Int), (12 : Int), (3 : Int), (13 : Int), (2 : Int), (14 : Int), (1 : Int), (15 : Int)] : List Int) [.int .i64 (16 : Int), .int .i64 (17 : Int), .int .i64 (18 : Int), .int .i64 (0 : Int), .int .i64 (8 : Int), .int .i64 (7 : Int), .int .i64 (9 : Int), .int .i64 (6 : Int), .int .i64 (10 : Int), .int .i64 (5 : Int), .int .i64 (11 : Int), .int .i64 (4 : Int), .int .i64 (12 : Int), .int .i64 (3 : Int), .int .i64 (13 : Int), .int .i64 (2 : Int), .int .i64 (14 : Int), .int .i64 (1 : Int), .int .i64 (15 : Int)] hS Tryd.runUnderlying74 Tryd.sizeOf3 X.el3 rfl rfl rfl (by simp [Value.cells]) rfl rfl rfl rfl rfl fun w A2660 c2661 f2662 hV2663 hS => ?_
  refine st1 hS (asg rfl) rfl fun a w hS => ?_
  refine wpList_nil ?_
  refine then_n ?_
  refine wp_ret ?_
  exact s_ret (rs := [0]) hS rfl rfl (hret A2660 c2661 f2662 w hM hV2663 (hS.st.pick [0] (by kernel_rfl)))

theorem mortiseref07_state_head_c {H : Imm} {F : List Frag} {w : World} {R : Ending → World → Prop} {kr : (Int × Int × (List Int) × (List Int) × Int × Int) → Prop} {kp : Value → Prop} (hG : Gl H) (K : Nat) (s2591 : T_mortiseref07_state) (b2592 : Nat) (f2593 : Frag) (b2595 : Nat) (f2596 : Frag) (A2598 : Option Addr) (c2599 : Nat) (f2600 : Frag) (hB2594 : Blk f2593 b2592 ([ptr b2595 0, .slice A2598 s2591.out_.length c2599, .int .i64 s2591.limit_]) 59) (hB2597 : Blk f2596 b2595 ([str s2591.r_.S_, .int .i64 s2591.r_.At_]) 57) (hV2601 : Vec 5 (ci .u8) 1 A2598 s2591.out_ c2599 f2600)
    (hS : St w H [f2593, f2596, f2600] F) (hm : (mortiseref07_state_head.m K s2591).wp kr kp)
    (hret : ∀ (x2767 : Int) (x2768 : Int) (A2769 : Option Addr) (c2770 : Nat) (l_2771 : (List Int)) (f2772 : Frag) (A2774 : Option Addr) (c2775 : Nat) (codes2776 : (List Int)) (f2777 : Frag) (x2779 : Int) (at_2780 : Int) (f2781 : Frag) (w : World), kr (x2767, x2768, l_2771, codes2776, x2779, at_2780) → (Vec 3 (ci .i64) 1 A2769 l_2771 c2770 f2772) → (Vec 3 (ci .i64) 1 A2774 codes2776 c2775 f2777) → (Blk f2781 b2595 ([str s2591.r_.S_, .int .i64 at_2780]) 57) → St w H [f2772, f2777, f2593, f2781, f2600] F → R (.returned (.tuple ⟨[.int .i64 x2767, .int .i64 x2768, .agg ⟨[.slice A2769 l_2771.length c2770, .slice A2774 codes2776.length c2775]⟩, .int .i64 x2779]⟩)) w) :
    Calls Tryd.prog 51 ⟨[ptr b2592 0]⟩ w R := by
  refine enter Tryd.func51 rfl Tryd.ntmps51 rfl hS fun a w hS => ?_
  have hM := hm; clear hm
  rw [mortiseref07_state_head.m] at hM
  refine wp_seq ?_
  refine wp_region_list ?_
  refine st1 hS (asg rfl) rfl fun a w hS => ?_
  refine st1 hS (asg rfl) rfl fun a w hS => ?_
  refine alc ([.slice none 0 0, .slice none 0 0]) hS Tryd.zeroValue78 rfl rfl fun w b2602 f2603 hB2604 hS => ?_
  obtain ⟨f2605, hV2606, hS⟩ := hS.nilV 3 (ci .i64) 1
  obtain ⟨f2607, hV2608, hS⟩ := hS.nilV 3 (ci .i64) 1
  refine st1 hS (asg rfl) rfl fun a w hS => ?_
  refine wpList_nil ?_
  refine then_n ?_
  refine wp_seq ?_
  refine wp_region_list ?_
  refine st1 hS (mv rfl) rfl fun a w hS => ?_
  refine s_call hS rfl Tryd.call33 (mortiseref07_state_bits_c hG K s2591 (5 : Int) (257 : Int) b2592 f2593 b2595 f2596 A2598 c2599 f2600 hB2594 hB2597 hV2601 (hS.st.part 3 [3, 4, 5, 0, 1, 2] (by kernel_rfl)) (wp_bind hM) (fun x2609 x2610 at_2611 f2612 w hM h2613 hst => s_back hS.ev hst.appF rfl fun hS => ?_))
  replace hS : Ss _ _ _ H [f2593, f2612, f2600, f2607, f2605, f2603] F _ _ := hS
  refine st1 hS (mv rfl) rfl fun a w hS => ?_
  refine st1 hS (ex rfl rfl) rfl fun a w hS => ?_
  refine st1 hS (ex rfl rfl) rfl fun a w hS => ?_
  refine st1 hS (asg rfl) rfl fun a w hS => ?_
  refine st1 hS (asg rfl) rfl fun a w hS => ?_
  refine wpList_nil ?_
  refine then_n ?_
  refine wp_seq ?_
  refine wp_seq ?_
  refine wp_region_list ?_
  refine st1 hS (mv rfl) rfl fun a w hS => ?_
  refine st1 hS (bin rfl rfl rfl) rfl fun a w hS => ?_
  refine wpList_nil ?_
  refine then_n ?_
  refine s_cond hS rfl hM (fun hb2614 hM => ?_) (fun hb2614 hM => ?_)
  · refine wp_seq ?_
    refine wp_region_list ?_
    refine st1 hS (bld ([.slice none 0 0, .slice none 0 0]) [(0, 1), (1, 1)] Tryd.zeroValue78 Tryd.runUnderlying78 (by intro w; simp [Tryd.sizeOf74]) rfl rfl) rfl fun a w hS => ?_
    refine st1 hS (mv rfl) rfl fun a w hS => ?_
    refine st1 hS (asg rfl) rfl fun a w hS => ?_
    refine st1 hS (asg rfl) rfl fun a w hS => ?_
    refine stB 5 ([.slice none 0 0, .slice none 0 0]) ([.slice none 0 0, .slice none 0 0]) hS rfl rfl hB2604 rfl rfl Tryd.sizeOf78 (by simp [Value.oneCell']) (Nat.le_of_ble_eq_true rfl) rfl fun w f2615 hB2616 hS => ?_
    obtain ⟨f2617, hV2618, hS⟩ := hS.nilV 3 (ci .i64) 1
    obtain ⟨f2619, hV2620, hS⟩ := hS.nilV 3 (ci .i64) 1
    refine st1 hS (asg rfl) rfl fun a w hS => ?_
    refine wpList_nil ?_
    refine then_n ?_
    refine wp_ret ?_
    refine then_ret ?_
    exact s_retC (vs := [.int .i64 (0 : Int), .int .i64 (0 : Int), .agg ⟨[.slice none ([] : List Int).length (0), .slice none ([] : List Int).length (0)]⟩, .int .i64 x2610]) hS rfl (by exact ⟨rvT rfl, rvT rfl, rvA 7 ([.slice none ([] : List Int).length (0), .slice none ([] : List Int).length (0)]) rfl hB2616 rfl rfl rfl Tryd.isAgg78 Tryd.sizeOf78, rvT rfl, trivial⟩) (hret (0 : Int) (0 : Int) none (0) ([] : List Int) f2617 none (0) ([] : List Int) f2619 x2610 at_2611 f2612 w hM hV2618 hV2620 h2613 (hS.st.pick [1, 0, 2, 3, 4] (by kernel_rfl)))
  · refine wp_skip ?_
    refine then_n ?_
    refine wp_seq ?_
    refine wp_region_list ?_
    refine st1 hS (mv rfl) rfl fun a w hS => ?_
    refine s_call hS rfl Tryd.call33 (mortiseref07_state_bits_c hG K (T_mortiseref07_state.mk (T_mortiseref05_Reader.mk s2591.r_.S_ at_2611) s2591.out_ s2591.limit_) (5 : Int) (1 : Int) b2592 f2593 b2595 f2612 A2598 c2599 f2600 hB2594 h2613 hV2601 (hS.st.part 3 [0, 1, 2, 3, 4, 5] (by kernel_rfl)) (wp_bind hM) (fun x2621 x2622 at_2623 f2624 w hM h2625 hst => s_back hS.ev hst.appF rfl fun hS => ?_))
    replace hS : Ss _ _ _ H [f2593, f2624, f2600, f2607, f2605, f2603] F _ _ := hS
    refine st1 hS (mv rfl) rfl fun a w hS => ?_
    refine st1 hS (ex rfl rfl) rfl fun a w hS => ?_
    refine st1 hS (ex rfl rfl) rfl fun a w hS => ?_
    refine st1 hS (asg rfl) rfl fun a w hS => ?_
    refine st1 hS (asg rfl) rfl fun a w hS => ?_
    refine wpList_nil ?_
    refine then_n ?_
    refine wp_seq ?_
    refine wp_seq ?_
    refine wp_region_list ?_
    refine st1 hS (mv rfl) rfl fun a w hS => ?_
    refine st1 hS (bin rfl rfl rfl) rfl fun a w hS => ?_
    refine wpList_nil ?_
    refine then_n ?_
    refine s_cond hS rfl hM (fun hb2626 hM => ?_) (fun hb2626 hM => ?_)
    · refine wp_seq ?_
      refine wp_region_list ?_
      refine st1 hS (bld ([.slice none 0 0, .slice none 0 0]) [(0, 1), (1, 1)] Tryd.zeroValue78 Tryd.runUnderlying78 (by intro w; simp [Tryd.sizeOf74]) rfl rfl) rfl fun a w hS => ?_
      refine st1 hS (mv rfl) rfl fun a w hS => ?_
      refine st1 hS (asg rfl) rfl fun a w hS => ?_
      refine st1 hS (asg rfl) rfl fun a w hS => ?_
      refine stB 5 ([.slice none 0 0, .slice none 0 0]) ([.slice none 0 0, .slice none 0 0]) hS rfl rfl hB2604 rfl rfl Tryd.sizeOf78 (by simp [Value.oneCell']) (Nat.le_of_ble_eq_true rfl) rfl fun w f2627 hB2628 hS => ?_
      obtain ⟨f2629, hV2630, hS⟩ := hS.nilV 3 (ci .i64) 1
      obtain ⟨f2631, hV2632, hS⟩ := hS.nilV 3 (ci .i64) 1
      refine st1 hS (asg rfl) rfl fun a w hS => ?_
      refine wpList_nil ?_
      refine then_n ?_
      refine wp_ret ?_
      refine then_ret ?_
      exact s_retC (vs := [.int .i64 (0 : Int), .int .i64 (0 : Int), .agg ⟨[.slice none ([] : List Int).length (0), .slice none ([] : List Int).length (0)]⟩, .int .i64 x2622]) hS rfl (by exact ⟨rvT rfl, rvT rfl, rvA 7 ([.slice none ([] : List Int).length (0), .slice none ([] : List Int).length (0)]) rfl hB2628 rfl rfl rfl Tryd.isAgg78 Tryd.sizeOf78, rvT rfl, trivial⟩) (hret (0 : Int) (0 : Int) none (0) ([] : List Int) f2629 none (0) ([] : List Int) f2631 x2622 at_2623 f2624 w hM hV2630 hV2632 h2625 (hS.st.pick [1, 0, 2, 3, 4] (by kernel_rfl)))
    · refine wp_skip ?_
      refine then_n ?_
      refine wp_seq ?_
      refine wp_region_list ?_
      refine st1 hS (mv rfl) rfl fun a w hS => ?_
      refine s_call hS rfl Tryd.call33 (mortiseref07_state_bits_c hG K (T_mortiseref07_state.mk (T_mortiseref05_Reader.mk s2591.r_.S_ at_2623) s2591.out_ s2591.limit_) (4 : Int) (4 : Int) b2592 f2593 b2595 f2624 A2598 c2599 f2600 hB2594 h2625 hV2601 (hS.st.part 3 [0, 1, 2, 3, 4, 5] (by kernel_rfl)) (wp_bind hM) (fun x2633 x2634 at_2635 f2636 w hM h2637 hst => s_back hS.ev hst.appF rfl fun hS => ?_))
      replace hS : Ss _ _ _ H [f2593, f2636, f2600, f2607, f2605, f2603] F _ _ := hS
      refine st1 hS (mv rfl) rfl fun a w hS => ?_
      refine st1 hS (ex rfl rfl) rfl fun a w hS => ?_
      refine st1 hS (ex rfl rfl) rfl fun a w hS => ?_
      refine st1 hS (asg rfl) rfl fun a w hS => ?_
      refine st1 hS (asg rfl) rfl fun a w hS => ?_
      refine wpList_nil ?_
      refine then_n ?_
      refine wp_seq ?_
      refine wp_seq ?_
      refine wp_region_list ?_
      refine st1 hS (mv rfl) rfl fun a w hS => ?_
      refine st1 hS (bin rfl rfl rfl) rfl fun a w hS => ?_
      refine wpList_nil ?_
      refine then_n ?_
      refine s_cond hS rfl hM (fun hb2638 hM => ?_) (fun hb2638 hM => ?_)
      · refine wp_seq ?_
        refine wp_region_list ?_
        refine st1 hS (bld ([.slice none 0 0, .slice none 0 0]) [(0, 1), (1, 1)] Tryd.zeroValue78 Tryd.runUnderlying78 (by intro w; simp [Tryd.sizeOf74]) rfl rfl) rfl fun a w hS => ?_
        refine st1 hS (mv rfl) rfl fun a w hS => ?_
        refine st1 hS (asg rfl) rfl fun a w hS => ?_
        refine st1 hS (asg rfl) rfl fun a w hS => ?_
        refine stB 5 ([.slice none 0 0, .slice none 0 0]) ([.slice none 0 0, .slice none 0 0]) hS rfl rfl hB2604 rfl rfl Tryd.sizeOf78 (by simp [Value.oneCell']) (Nat.le_of_ble_eq_true rfl) rfl fun w f2639 hB2640 hS => ?_
        obtain ⟨f2641, hV2642, hS⟩ := hS.nilV 3 (ci .i64) 1
        obtain ⟨f2643, hV2644, hS⟩ := hS.nilV 3 (ci .i64) 1
        refine st1 hS (asg rfl) rfl fun a w hS => ?_
        refine wpList_nil ?_
        refine then_n ?_
        refine wp_ret ?_
        refine then_ret ?_
        exact s_retC (vs := [.int .i64 (0 : Int), .int .i64 (0 : Int), .agg ⟨[.slice none ([] : List Int).length (0), .slice none ([] : List Int).length (0)]⟩, .int .i64 x2634]) hS rfl (by exact ⟨rvT rfl, rvT rfl, rvA 7 ([.slice none ([] : List Int).length (0), .slice none ([] : List Int).length (0)]) rfl hB2640 rfl rfl rfl Tryd.isAgg78 Tryd.sizeOf78, rvT rfl, trivial⟩) (hret (0 : Int) (0 : Int) none (0) ([] : List Int) f2641 none (0) ([] : List Int) f2643 x2634 at_2635 f2636 w hM hV2642 hV2644 h2637 (hS.st.pick [1, 0, 2, 3, 4] (by kernel_rfl)))
      · refine wp_skip ?_
        refine then_n ?_
        refine wp_seq ?_
        refine wp_seq ?_
        refine wp_region_list ?_
        refine st1 hS (mv rfl) rfl fun a w hS => ?_
        refine st1 hS (bin rfl rfl rfl) rfl fun a w hS => ?_
        refine st1 hS (mv rfl) rfl fun a w hS => ?_
        refine g_op 2 false 49 (b := (decide (x2609 > (286 : Int)))) (r := (decide (x2621 > (30 : Int)))) hS rfl rfl rfl rfl rfl rfl rfl (fun hb a w hS K hK => ?_) rfl fun a w hS => ?_
        · refine st1g hS rfl rfl rfl hb (mv rfl) rfl fun a w hS => ?_
          refine st1g hS rfl rfl rfl hb (bin rfl rfl rfl) rfl fun a w hS => ?_
          exact wpList_nil (hK _ _ (hS.up 2 rfl rfl))
        refine wpList_nil ?_
        refine then_n ?_
        refine s_cond hS rfl hM (fun hb2645 hM => ?_) (fun hb2645 hM => ?_)
        · refine wp_seq ?_
          refine wp_region_list ?_
          refine st1 hS (bld ([.slice none 0 0, .slice none 0 0]) [(0, 1), (1, 1)] Tryd.zeroValue78 Tryd.runUnderlying78 (by intro w; simp [Tryd.sizeOf74]) rfl rfl) rfl fun a w hS => ?_
          refine st1 hS (asg rfl) rfl fun a w hS => ?_
          refine st1 hS (asg rfl) rfl fun a w hS => ?_
          refine stB 5 ([.slice none 0 0, .slice none 0 0]) ([.slice none 0 0, .slice none 0 0]) hS rfl rfl hB2604 rfl rfl Tryd.sizeOf78 (by simp [Value.oneCell']) (Nat.le_of_ble_eq_true rfl) rfl fun w f2646 hB2647 hS => ?_
          obtain ⟨f2648, hV2649, hS⟩ := hS.nilV 3 (ci .i64) 1
          obtain ⟨f2650, hV2651, hS⟩ := hS.nilV 3 (ci .i64) 1
          refine st1 hS (asg rfl) rfl fun a w hS => ?_
          refine wpList_nil ?_
          refine then_n ?_
          refine wp_ret ?_
          refine then_ret ?_
          exact s_retC (vs := [.int .i64 (0 : Int), .int .i64 (0 : Int), .agg ⟨[.slice none ([] : List Int).length (0), .slice none ([] : List Int).length (0)]⟩, .int .i64 (3 : Int)]) hS rfl (by exact ⟨rvT rfl, rvT rfl, rvA 7 ([.slice none ([] : List Int).length (0), .slice none ([] : List Int).length (0)]) rfl hB2647 rfl rfl rfl Tryd.isAgg78 Tryd.sizeOf78, rvT rfl, trivial⟩) (hret (0 : Int) (0 : Int) none (0) ([] : List Int) f2648 none (0) ([] : List Int) f2650 (3 : Int) at_2635 f2636 w hM hV2649 hV2651 h2637 (hS.st.pick [1, 0, 2, 3, 4] (by kernel_rfl)))
        · refine wp_skip ?_
          refine then_n ?_
          refine wp_seq ?_
          refine wp_region_list ?_
          obtain ⟨hk2652, hM⟩ := wp_chk hM
          refine mkS (g := (ci .i64)) (0 : Int) hS rfl rfl (by simp) Tryd.runUnderlying74 X.el3 (fun w => ⟨_, Tryd.zeroValue3 w, rfl⟩) (fun _ => rfl) rfl rfl hk2652 rfl fun zs2657 w A2653 c2654 f2655 hz hV2656 hS => ?_
          have hM := lt_to hz hM; clear hz
          refine st1 hS (asg rfl) rfl fun a w hS => ?_
          refine wpList_nil ?_
          refine then_n ?_
          refine wp_seq ?_
          refine wp_region_list ?_
          refine s_call hS rfl Tryd.call60 (mortiseref07_Order_c hG K  (hS.st.part 0 [0, 1, 2, 3, 4, 5, 6] (by kernel_rfl)) (wp_bind hM) (fun A2668 c2669 f2670 w hM h2671 hst => s_back hS.ev hst.appF rfl fun hS => ?_))
          replace hS : Ss _ _ _ H [f2670, f2655, f2593, f2636, f2600, f2607, f2605, f2603] F _ _ := hS
          refine st1 hS (asg rfl) rfl fun a w hS => ?_
          refine wpList_nil ?_
          refine then_n ?_
          refine wp_seq ?_
          refine wp_region_list ?_
          refine st1 hS (asg rfl) rfl fun a w hS => ?_
          refine wpList_nil ?_
          refine then_n ?_
          refine seq_joinJ (fun a w => ∃ (at_2735 : Int) (f2736 : Frag) (l_2738 : (List Int)) (f2739 : Frag) (any2741 : Bool), Ss 97 [] [(4, ptr b2602 0), (6, .int .i64 x2609), (8, .int .i64 x2621), (12, .slice A2653 l_2738.length c2654), (14, .bool any2741)] H [f2593, f2736, f2600, f2603, f2605, f2607, f2739] F a w ∧ (Blk f2736 b2595 ([str s2591.r_.S_, .int .i64 at_2735]) 57) ∧ (Vec 3 (ci .i64) 1 A2653 l_2738 c2654 f2739) ∧ (mortiseref07_state_head.j2 K x2609 x2621 at_2735 l_2738 any2741).wp kr kp) (fun J2742 hJ2742 => ?_) ?_
          · refine wp_seq ?_
            refine wp_region_list ?_
            refine st1 hS (asg rfl) rfl fun a w hS => ?_
            refine wpList_nil ?_
            refine then_n ?_
            refine wp_block ?_
            refine s_loopJ (fun k2712 a w => ∃ (at_2704 : Int) (f2705 : Frag) (l_2707 : (List Int)) (f2708 : Frag) (any2710 : Bool) (i2711 : Int), Ss 97 [] [(0, ptr b2592 0), (4, ptr b2602 0), (6, .int .i64 x2609), (8, .int .i64 x2621), (10, .int .i64 x2633), (12, .slice A2653 l_2707.length c2654), (13, .slice A2668 ([(16 : Int), (17 : Int), (18 : Int), (0 : Int), (8 : Int), (7 : Int), (9 : Int), (6 : Int), (10 : Int), (5 : Int), (11 : Int), (4 : Int), (12 : Int), (3 : Int), (13 : Int), (2 : Int), (14 : Int), (1 : Int), (15 : Int)] : List Int).length c2669), (14, .bool any2710), (15, .int .i64 i2711)] H [f2593, f2705, f2600, f2603, f2605, f2607, f2708, f2670] F a w ∧ (Blk f2705 b2595 ([str s2591.r_.S_, .int .i64 at_2704]) 57) ∧ (Vec 3 (ci .i64) 1 A2653 l_2707 c2654 f2708) ∧ (mortiseref07_state_head.l1 K s2591 x2609 x2621 x2633 k2712 at_2704 l_2707 any2710 i2711).wp kr kp) K ?_ ?_ ?_
            · exact ⟨at_2635, f2636, zs2657, f2655, false, (0 : Int), hS.to [2, 3, 4, 7, 6, 5, 1, 0] (by kernel_rfl) ⟨rfl, rfl, rfl, rfl, rfl, rfl, rfl, rfl, rfl, trivial⟩, h2637, hV2656, hM⟩
            · intro a w hI; obtain ⟨_, _, _, _, _, _, _, _, _, hM⟩ := hI; exact hM
            · intro k2712 a w hI J2734 hJ2734
              obtain ⟨at_2704, f2705, l_2707, f2708, any2710, i2711, hS, hB2706, hV2709, hM⟩ := hI
              rw [mortiseref07_state_head.l1] at hM
              refine wp_seq ?_
              refine wp_seq ?_
              refine wp_region_list ?_
              refine st1 hS (mv rfl) rfl fun a w hS => ?_
              refine st1 hS (mv rfl) rfl fun a w hS => ?_
              refine st1 hS (bin rfl rfl rfl) rfl fun a w hS => ?_
              refine wpList_nil ?_
              refine then_n ?_
              refine s_cond hS rfl hM (fun hb2713 hM => ?_) (fun hb2713 hM => ?_)
              · refine wp_skip ?_
                refine then_n ?_
                refine wp_seq ?_
                refine wp_block ?_
                refine wp_seq ?_
                refine wp_region_list ?_
                refine st1 hS (mv rfl) rfl fun a w hS => ?_
                refine s_call hS rfl Tryd.call33 (mortiseref07_state_bits_c hG K (T_mortiseref07_state.mk (T_mortiseref05_Reader.mk s2591.r_.S_ at_2704) s2591.out_ s2591.limit_) (3 : Int) (0 : Int) b2592 f2593 b2595 f2705 A2598 c2599 f2600 hB2594 hB2706 hV2601 (hS.st.part 3 [0, 1, 2, 3, 4, 5, 6, 7] (by kernel_rfl)) (wp_bind hM) (fun x2714 x2715 at_2716 f2717 w hM h2718 hst => s_back hS.ev hst.appF rfl fun hS => ?_))
                replace hS : Ss _ _ _ H [f2593, f2717, f2600, f2603, f2605, f2607, f2708, f2670] F _ _ := hS
                refine st1 hS (mv rfl) rfl fun a w hS => ?_
                refine st1 hS (ex rfl rfl) rfl fun a w hS => ?_
                refine st1 hS (ex rfl rfl) rfl fun a w hS => ?_
                refine st1 hS (asg rfl) rfl fun a w hS => ?_
                refine st1 hS (asg rfl) rfl fun a w hS => ?_
                refine wpList_nil ?_
                refine then_n ?_
                refine wp_seq ?_
                refine wp_seq ?_
                refine wp_region_list ?_
                refine st1 hS (mv rfl) rfl fun a w hS => ?_
                refine st1 hS (bin rfl rfl rfl) rfl fun a w hS => ?_
                refine wpList_nil ?_
                refine then_n ?_
                refine s_cond hS rfl hM (fun hb2719 hM => ?_) (fun hb2719 hM => ?_)
                · refine wp_seq ?_
                  refine wp_region_list ?_
                  refine st1 hS (bld ([.slice none 0 0, .slice none 0 0]) [(0, 1), (1, 1)] Tryd.zeroValue78 Tryd.runUnderlying78 (by intro w; simp [Tryd.sizeOf74]) rfl rfl) rfl fun a w hS => ?_
                  refine st1 hS (mv rfl) rfl fun a w hS => ?_
                  refine st1 hS (asg rfl) rfl fun a w hS => ?_
                  refine st1 hS (asg rfl) rfl fun a w hS => ?_
                  refine stB 3 ([.slice none 0 0, .slice none 0 0]) ([.slice none 0 0, .slice none 0 0]) hS rfl rfl hB2604 rfl rfl Tryd.sizeOf78 (by simp [Value.oneCell']) (Nat.le_of_ble_eq_true rfl) rfl fun w f2720 hB2721 hS => ?_
                  obtain ⟨f2722, hV2723, hS⟩ := hS.nilV 3 (ci .i64) 1
                  obtain ⟨f2724, hV2725, hS⟩ := hS.nilV 3 (ci .i64) 1
                  refine st1 hS (asg rfl) rfl fun a w hS => ?_
                  refine wpList_nil ?_
                  refine then_n ?_
                  refine wp_ret ?_
                  refine then_ret (blk_ret (then_ret (then_ret (blk_ret (then_ret ?_)))))
                  exact s_retC (vs := [.int .i64 (0 : Int), .int .i64 (0 : Int), .agg ⟨[.slice none ([] : List Int).length (0), .slice none ([] : List Int).length (0)]⟩, .int .i64 x2715]) hS rfl (by exact ⟨rvT rfl, rvT rfl, rvA 5 ([.slice none ([] : List Int).length (0), .slice none ([] : List Int).length (0)]) rfl hB2721 rfl rfl rfl Tryd.isAgg78 Tryd.sizeOf78, rvT rfl, trivial⟩) (hret (0 : Int) (0 : Int) none (0) ([] : List Int) f2722 none (0) ([] : List Int) f2724 x2715 at_2716 f2717 w hM hV2723 hV2725 h2718 (hS.st.pick [1, 0, 2, 3, 4] (by kernel_rfl)))
                · refine wp_skip ?_
                  refine then_n ?_
                  refine wp_seq ?_
                  refine wp_region_list ?_
                  refine st1 hS (mv rfl) rfl fun a w hS => ?_
                  refine st1 hS (mv rfl) rfl fun a w hS => ?_
                  refine st1 hS (mv rfl) rfl fun a w hS => ?_
                  obtain ⟨hk2726, hM⟩ := wp_chk hM
                  refine st1 hS (ixV rfl rfl Tryd.runUnderlying74 Tryd.sizeOf3 (h2671.rd (i := 7) rfl) (fun _ => rfl) rfl hk2726) rfl fun a w hS => ?_
                  refine st1 hS (ldV0 rfl (h2671.rd (i := 7) rfl) (fun _ => rfl) hk2726 rfl Tryd.isAgg3) rfl fun a w hS => ?_
                  refine st1 hS (mv rfl) rfl fun a w hS => ?_
                  obtain ⟨hk2727, hM⟩ := wp_chk hM
                  refine st1 hS (ixV rfl rfl Tryd.runUnderlying74 Tryd.sizeOf3 (hV2709.rd (i := 6) rfl) (fun _ => rfl) rfl hk2727) rfl fun a w hS => ?_
                  refine stV 6 0 (x2714) hS rfl rfl hV2709 rfl Tryd.sizeOf3 (one_t3 x2714) (fun _ => rfl) hk2727 rfl rfl fun zs2730 w f2728 hz hz2731 hV2729 hS => ?_
                  have hM := lt_to hz hM; clear hz
                  replace hS := hS.re 12 (u := .slice A2653 l_2707.length c2654) (v := .slice A2653 zs2730.length c2654) rfl (by rw [hz2731])
                  replace hS := hS.re 70 (u := .slice A2653 l_2707.length c2654) (v := .slice A2653 zs2730.length c2654) rfl (by rw [hz2731])
                  refine wpList_nil ?_
                  refine then_n ?_
                  refine wp_region_list ?_
                  refine st1 hS (mv rfl) rfl fun a w hS => ?_
                  refine st1 hS (mv rfl) rfl fun a w hS => ?_
                  refine g_op 2 false 78 (b := any2710) (r := (decide (x2714 > (0 : Int)))) hS rfl rfl rfl rfl rfl rfl rfl (fun hb a w hS K hK => ?_) rfl fun a w hS => ?_
                  · refine st1g hS rfl rfl rfl hb (mv rfl) rfl fun a w hS => ?_
                    refine st1g hS rfl rfl rfl hb (bin rfl rfl rfl) rfl fun a w hS => ?_
                    exact wpList_nil (hK _ _ (hS.up 2 rfl rfl))
                  refine st1x (v := Value.bool) hS (asg rfl) rfl fun any2732 a w hz hS => ?_
                  have hM := lt_to hz hM; clear hz
                  refine wpList_nil ?_
                  refine blk_n (then_n ?_)
                  refine wp_region_list ?_
                  refine st1 hS (mv rfl) rfl fun a w hS => ?_
                  refine st1 hS (bin rfl rfl rfl) rfl fun a w hS => ?_
                  refine st1x (v := Value.int .i64) hS (asg rfl) rfl fun i2733 a w hz hS => ?_
                  have hM := lt_to hz hM; clear hz
                  refine wpList_nil ?_
                  refine then_n ?_
                  exact hJ2734 _ _ ⟨at_2716, f2717, zs2730, f2728, any2732, i2733, hS.to [0, 1, 2, 3, 4, 5, 6, 7] (by kernel_rfl) ⟨rfl, rfl, rfl, rfl, rfl, rfl, rfl, rfl, rfl, trivial⟩, h2718, hV2729, hM⟩
              · refine wp_exit ?_
                refine then_ex (then_ex (blk_same (then_n ?_)))
                exact hJ2742 _ _ ⟨at_2704, f2705, l_2707, f2708, any2710, hS.to [0, 1, 2, 3, 4, 5, 6] (by kernel_rfl) ⟨rfl, rfl, rfl, rfl, rfl, trivial⟩, hB2706, hV2709, hM⟩
          · intro a w hI
            obtain ⟨at_2735, f2736, l_2738, f2739, any2741, hS, hB2737, hV2740, hM⟩ := hI
            rw [mortiseref07_state_head.j2] at hM
            refine wp_seq ?_
            refine wp_region_list ?_
            refine st1 hS (mv rfl) rfl fun a w hS => ?_
            refine s_call hS rfl Tryd.call36 (mortiseref07_coded_c hG K l_2738 A2653 c2654 (hV2740.rdF (i := 6) rfl) (hV2740.cap (fun _ => rfl) rfl) (hS.st.part 0 [0, 1, 2, 3, 4, 5, 6] (by kernel_rfl)) (wp_bind hM) (fun A2743 c2744 codes2745 f2746 x2747 w hM h2748 hst => s_back hS.ev hst.appF rfl fun hS => ?_))
            replace hS : Ss _ _ _ H [f2746, f2593, f2736, f2600, f2603, f2605, f2607, f2739] F _ _ := hS
            refine st1 hS (mv rfl) rfl fun a w hS => ?_
            refine st1 hS (ex rfl rfl) rfl fun a w hS => ?_
            refine st1 hS (ex rfl rfl) rfl fun a w hS => ?_
            refine alc ([.slice none 0 0, .slice none 0 0]) hS Tryd.zeroValue78 rfl rfl fun w b2749 f2750 hB2751 hS => ?_
            obtain ⟨f2752, hV2753, hS⟩ := hS.nilV 3 (ci .i64) 1
            obtain ⟨f2754, hV2755, hS⟩ := hS.nilV 3 (ci .i64) 1
            refine stB 2 ([.slice A2653 l_2738.length c2654, .slice A2743 codes2745.length c2744]) ([.slice A2653 l_2738.length c2654, .slice A2743 codes2745.length c2744]) hS rfl rfl hB2751 rfl rfl Tryd.sizeOf78 (by simp [Value.oneCell']) (Nat.le_of_ble_eq_true rfl) rfl fun w f2756 hB2757 hS => ?_
            refine st1 hS (asg rfl) rfl fun a w hS => ?_
            refine wpList_nil ?_
            refine then_n ?_
            refine wp_seq ?_
            refine wp_seq ?_
            refine wp_region_list ?_
            refine st1 hS (mv rfl) rfl fun a w hS => ?_
            refine st1 hS (un rfl rfl) rfl fun a w hS => ?_
            refine st1 hS (mv rfl) rfl fun a w hS => ?_
            refine g_op 2 false 89 (b := (!x2747)) (r := (!any2741)) hS rfl rfl rfl rfl rfl rfl rfl (fun hb a w hS K hK => ?_) rfl fun a w hS => ?_
            · refine st1g hS rfl rfl rfl hb (mv rfl) rfl fun a w hS => ?_
              refine st1g hS rfl rfl rfl hb (un rfl rfl) rfl fun a w hS => ?_
              exact wpList_nil (hK _ _ (hS.up 2 rfl rfl))
            refine wpList_nil ?_
            refine then_n ?_
            refine s_cond hS rfl hM (fun hb2758 hM => ?_) (fun hb2758 hM => ?_)
            · refine wp_seq ?_
              refine wp_region_list ?_
              refine st1 hS (bld ([.slice none 0 0, .slice none 0 0]) [(0, 1), (1, 1)] Tryd.zeroValue78 Tryd.runUnderlying78 (by intro w; simp [Tryd.sizeOf74]) rfl rfl) rfl fun a w hS => ?_
              refine st1 hS (asg rfl) rfl fun a w hS => ?_
              refine st1 hS (asg rfl) rfl fun a w hS => ?_
              refine stB 7 ([.slice none 0 0, .slice none 0 0]) ([.slice none 0 0, .slice none 0 0]) hS rfl rfl hB2604 rfl rfl Tryd.sizeOf78 (by simp [Value.oneCell']) (Nat.le_of_ble_eq_true rfl) rfl fun w f2759 hB2760 hS => ?_
              obtain ⟨f2761, hV2762, hS⟩ := hS.nilV 3 (ci .i64) 1
              obtain ⟨f2763, hV2764, hS⟩ := hS.nilV 3 (ci .i64) 1
              refine st1 hS (asg rfl) rfl fun a w hS => ?_
              refine wpList_nil ?_
              refine then_n ?_
              refine wp_ret ?_
              refine then_ret ?_
              exact s_retC (vs := [.int .i64 (0 : Int), .int .i64 (0 : Int), .agg ⟨[.slice none ([] : List Int).length (0), .slice none ([] : List Int).length (0)]⟩, .int .i64 (3 : Int)]) hS rfl (by exact ⟨rvT rfl, rvT rfl, rvA 9 ([.slice none ([] : List Int).length (0), .slice none ([] : List Int).length (0)]) rfl hB2760 rfl rfl rfl Tryd.isAgg78 Tryd.sizeOf78, rvT rfl, trivial⟩) (hret (0 : Int) (0 : Int) none (0) ([] : List Int) f2761 none (0) ([] : List Int) f2763 (3 : Int) at_2735 f2736 w hM hV2762 hV2764 hB2737 (hS.st.pick [1, 0, 6, 7, 8] (by kernel_rfl)))
            · refine wp_skip ?_
              refine then_n ?_
              refine wp_seq ?_
              refine draw_begin (vals := [some (.int .i64 x2609), some (.int .i64 x2621), some (.agg ⟨[.slice A2653 l_2738.length c2654, .slice A2743 codes2745.length c2744]⟩), some (.int .i64 x2609), some (.int .i64 x2621), none, none]) hS mixed rfl ?_
              intro l w ho hcl hA hst
              refine phase' (vals := [some (.int .i64 x2609), some (.int .i64 x2621), some (.agg ⟨[.slice A2653 l_2738.length c2654, .slice A2743 codes2745.length c2744]⟩), some (.int .i64 x2609), some (.int .i64 x2621), none, none]) 5 [] [0, 1, 2, 3, 4] rfl rfl rfl rfl (by exact ⟨nR rfl rfl rfl rfl rfl (by exact ovE (mv rfl) rfl), nR rfl rfl rfl rfl rfl (by exact ovE (mv rfl) rfl), nR rfl rfl rfl rfl rfl (by exact ovE (ldbA 2 rfl hB2757 rfl ([.slice A2653 l_2738.length c2654, .slice A2743 codes2745.length c2744]) rfl rfl Tryd.isAgg78 Tryd.sizeOf78) rfl), nR rfl rfl rfl rfl rfl (by exact ovE (asg rfl) rfl), nR rfl rfl rfl rfl rfl (by exact ovE (asg rfl) rfl), trivial⟩) (fun D l a w ho hcl hav hpre hm hE hk hA hst => ?_) ho hcl (fun j hj => (List.not_mem_nil hj).elim) (fun m hm => (List.not_mem_nil hm).elim) List.not_mem_nil hA hst
              have hS := (Ss.mk hE hst).env2 (e' := [(4, ptr b2602 0), (96, .agg ⟨[.slice A2653 l_2738.length c2654, .slice A2743 codes2745.length c2744]⟩)]) ⟨rfl, rfl, trivial⟩
              refine op_of_nth rfl ?_
              refine stB 7 ([.slice A2653 l_2738.length c2654, .slice A2743 codes2745.length c2744]) ([.slice A2653 l_2738.length c2654, .slice A2743 codes2745.length c2744]) hS rfl rfl hB2604 rfl rfl Tryd.sizeOf78 (by simp [Value.oneCell']) (Nat.le_of_ble_eq_true rfl) rfl fun w f2765 hB2766 hS => ?_
              refine wpList_nil (then_n ?_)
              have hcl2 := hcl.cons (k := 5) (nth_get rfl) hpre
              have hmust := must_cons (k := 5) hm (chain (k := 5) hcl (nth_get rfl) hpre [(0, 5), (1, 5), (2, 5), (3, 5), (4, 5)] [] rfl (fun _ h => absurd h List.not_mem_nil))
              replace hst := hS.st
              have hav2 := hav.cons (vals' := [some (.int .i64 x2609), some (.int .i64 x2621), some (.agg ⟨[.slice A2653 l_2738.length c2654, .slice A2743 codes2745.length c2744]⟩), some (.int .i64 x2609), some (.int .i64 x2621), some undef, some (.int .i64 (0 : Int))]) (k := 5) ⟨rfl, rfl, rfl, rfl, rfl, trivial⟩ rfl
              replace hA := (hA.next hav (subV.get (l' := [some (.int .i64 x2609), some (.int .i64 x2621), some (.agg ⟨[.slice A2653 l_2738.length c2654, .slice A2743 codes2745.length c2744]⟩), some (.int .i64 x2609), some (.int .i64 x2621), some undef, some (.int .i64 (0 : Int))]) ⟨rfl, rfl, rfl, rfl, rfl, trivial⟩)).stepN (i := 5) (nth_get rfl) rfl
              clear hm hav
              replace hcl := hcl2
              refine phaseE (vals := [some (.int .i64 x2609), some (.int .i64 x2621), some (.agg ⟨[.slice A2653 l_2738.length c2654, .slice A2743 codes2745.length c2744]⟩), some (.int .i64 x2609), some (.int .i64 x2621), some undef, some (.int .i64 (0 : Int))]) [5, 0, 1, 2, 3, 4] [6] rfl rfl rfl (by exact ⟨nR rfl rfl rfl rfl rfl (by exact ovE (asg rfl) rfl), trivial⟩) (fun a w hS => ?_) ho hcl hmust hA hst
              replace hS := hS.env2 (e' := [(2, .int .i64 x2609), (3, .int .i64 x2621), (4, ptr b2602 0), (5, .int .i64 (0 : Int))]) ⟨rfl, rfl, rfl, rfl, trivial⟩
              refine then_n ?_
              refine wp_ret ?_
              exact s_retC (vs := [.int .i64 x2609, .int .i64 x2621, .agg ⟨[.slice A2653 l_2738.length c2654, .slice A2743 codes2745.length c2744]⟩, .int .i64 (0 : Int)]) hS rfl (by exact ⟨rvT rfl, rvT rfl, rvA 7 ([.slice A2653 l_2738.length c2654, .slice A2743 codes2745.length c2744]) rfl hB2766 rfl rfl rfl Tryd.isAgg78 Tryd.sizeOf78, rvT rfl, trivial⟩) (hret x2609 x2621 A2653 c2654 l_2738 f2739 A2743 c2744 codes2745 f2746 (0 : Int) at_2735 f2736 w hM hV2740 h2748 hB2737 (hS.st.pick [10, 3, 4, 5, 6] (by kernel_rfl)))

theorem mortiseref07_state_row_c {H : Imm} {F : List Frag} {w : World} {R : Ending → World → Prop} {kr : ((List Int) × Int × Int) → Prop} {kp : Value → Prop} (hG : Gl H) (K : Nat) (s2809 : T_mortiseref07_state) (n_2820 : Int) (c_2821 : T_mortiseref07_code) (b2810 : Nat) (f2811 : Frag) (b2813 : Nat) (f2814 : Frag) (A2816 : Option Addr) (c2817 : Nat) (f2818 : Frag) (A2822 : Option Addr) (c2823 : Nat) (A2826 : Option Addr) (c2827 : Nat) (hB2812 : Blk f2811 b2810 ([ptr b2813 0, .slice A2816 s2809.out_.length c2817, .int .i64 s2809.limit_]) 59) (hB2815 : Blk f2814 b2813 ([str s2809.r_.S_, .int .i64 s2809.r_.At_]) 57) (hV2819 : Vec 5 (ci .u8) 1 A2816 s2809.out_ c2817 f2818) (hr2824 : Rdl H [] F (ci .i64) A2822 c_2821.l_) (hc2825 : c_2821.l_.length ≤ c2823) (hr2828 : Rdl H [] F (ci .i64) A2826 c_2821.codes_) (hc2829 : c_2821.codes_.length ≤ c2827)
    (hS : St w H [f2811, f2814, f2818] F) (hm : (mortiseref07_state_row.m K s2809 n_2820 c_2821).wp kr kp)
    (hret : ∀ (A3050 : Option Addr) (c3051 : Nat) (x3052 : (List Int)) (f3053 : Frag) (x3055 : Int) (at_3056 : Int) (f3057 : Frag) (w : World), kr (x3052, x3055, at_3056) → (Vec 3 (ci .i64) 1 A3050 x3052 c3051 f3053) → (Blk f3057 b2813 ([str s2809.r_.S_, .int .i64 at_3056]) 57) → St w H [f3053, f2811, f3057, f2818] F → R (.returned (.tuple ⟨[.slice A3050 x3052.length c3051, .int .i64 x3055]⟩)) w) :
    Calls Tryd.prog 52 ⟨[ptr b2810 0, .int .i64 n_2820, .agg ⟨[.slice A2822 c_2821.l_.length c2823, .slice A2826 c_2821.codes_.length c2827]⟩]⟩ w R := by
  refine enter Tryd.func52 rfl Tryd.ntmps52 rfl hS fun a w hS => ?_
  have hM := hm; clear hm
  rw [mortiseref07_state_row.m] at hM
  refine wp_seq ?_
  refine wp_region_list ?_
  refine bx ([.slice A2822 c_2821.l_.length c2823, .slice A2826 c_2821.codes_.length c2827]) hS rfl rfl rfl fun w b2830 f2831 hB2832 hS => ?_
  refine st1 hS (asg rfl) rfl fun a w hS => ?_
  obtain ⟨f2833, hV2834, hS⟩ := hS.nilV 3 (ci .i64) 1
  refine st1 hS (asg rfl) rfl fun a w hS => ?_
  refine wpList_nil ?_
  refine then_n ?_
  refine wp_seq ?_
  refine wp_region_list ?_
  refine st1 hS (asg rfl) rfl fun a w hS => ?_
  obtain ⟨f2835, hV2836, hS⟩ := hS.nilV 3 (ci .i64) 1
  refine wpList_nil ?_
  refine then_n ?_
  refine wp_seq ?_
  refine wp_block ?_
  refine s_loopJ (fun k2951 a w => ∃ (at_2943 : Int) (f2944 : Frag) (A2946 : Option Addr) (c2947 : Nat) (out2948 : (List Int)) (f2949 : Frag), Ss 87 [] [(0, ptr b2810 0), (1, .int .i64 n_2820), (5, ptr b2830 0), (8, .slice A2946 out2948.length c2947)] H [f2811, f2944, f2818, f2831, f2949] F a w ∧ (Blk f2944 b2813 ([str s2809.r_.S_, .int .i64 at_2943]) 57) ∧ (Vec 3 (ci .i64) 1 A2946 out2948 c2947 f2949) ∧ (mortiseref07_state_row.l1 K s2809 n_2820 c_2821 k2951 at_2943 out2948).wp kr kp) K ?_ ?_ ?_
  · exact ⟨s2809.r_.At_, f2814, none, 0, ([] : List Int), f2835, hS.to [3, 4, 5, 2, 0] (by kernel_rfl) ⟨rfl, rfl, rfl, rfl, trivial⟩, hB2815, hV2836, hM⟩
  · intro a w hI; obtain ⟨_, _, _, _, _, _, _, _, _, hM⟩ := hI; exact hM
  · intro k2951 a w hI J3049 hJ3049
    obtain ⟨at_2943, f2944, A2946, c2947, out2948, f2949, hS, hB2945, hV2950, hM⟩ := hI
    rw [mortiseref07_state_row.l1] at hM
    refine wp_seq ?_
    refine wp_seq ?_
    refine wp_region_list ?_
    refine st1 hS (mv rfl) rfl fun a w hS => ?_
    refine st1 hS (lenV rfl Tryd.runUnderlying74) rfl fun a w hS => ?_
    refine st1 hS (mv rfl) rfl fun a w hS => ?_
    refine st1 hS (bin rfl rfl rfl) rfl fun a w hS => ?_
    refine wpList_nil ?_
    refine then_n ?_
    refine s_cond hS rfl hM (fun hb2952 hM => ?_) (fun hb2952 hM => ?_)
    · refine wp_skip ?_
      refine then_n ?_
      refine wp_block ?_
      refine wp_seq ?_
      refine draw_begin (vals := [some (ptr b2830 0), some (.slice A2822 c_2821.l_.length c2823), some (ptr b2830 1), some (.slice A2826 c_2821.codes_.length c2827), some (ptr b2810 0), some (ptr b2810 0), some (ptr b2810 0), some (ptr b2813 0), none, none, none, none, none, none]) hS mixed rfl ?_
      intro l w ho hcl hA hst
      refine phase' (vals := [some (ptr b2830 0), some (.slice A2822 c_2821.l_.length c2823), some (ptr b2830 1), some (.slice A2826 c_2821.codes_.length c2827), some (ptr b2810 0), some (ptr b2810 0), some (ptr b2810 0), some (ptr b2813 0), none, none, none, none, none, none]) 8 [] [0, 1, 2, 3, 4, 5, 6, 7] rfl rfl rfl rfl (by exact ⟨nR rfl rfl rfl rfl rfl (by exact ovE (fad rfl Tryd.runUnderlying78 rfl Tryd.sizeOf74 rfl) rfl), nR rfl rfl rfl rfl rfl (by exact ovE (ldb 3 rfl hB2832 rfl rfl Tryd.isAgg74) rfl), nR rfl rfl rfl rfl rfl (by exact ovE (fad rfl Tryd.runUnderlying78 rfl Tryd.sizeOf74 rfl) rfl), nR rfl rfl rfl rfl rfl (by exact ovE (ldb 3 rfl hB2832 rfl rfl Tryd.isAgg74) rfl), nR rfl rfl rfl rfl rfl (by exact ovE (mv rfl) rfl), nR rfl rfl rfl rfl rfl (by exact ovE (nck rfl) rfl), nR rfl rfl rfl rfl rfl (by exact ovE (fad rfl Tryd.runUnderlying59 rfl Tryd.sizeOf55 rfl) rfl), nR rfl rfl rfl rfl rfl (by exact ovE (ldb 0 rfl hB2812 rfl rfl Tryd.isAgg55) rfl), trivial⟩) (fun D l a w ho hcl hav hpre hm hE hk hA hst => ?_) ho hcl (fun j hj => (List.not_mem_nil hj).elim) (fun m hm => (List.not_mem_nil hm).elim) List.not_mem_nil hA hst
      have hS := (Ss.mk hE hst).env2 (e' := [(20, .slice A2822 c_2821.l_.length c2823), (22, .slice A2826 c_2821.codes_.length c2827), (26, ptr b2813 0)]) ⟨rfl, rfl, rfl, trivial⟩
      refine op_of_nth rfl ?_
      refine s_call hS rfl Tryd.call49 (mortiseref06_Next_c hG K c_2821.l_ c_2821.codes_ (T_mortiseref05_Reader.mk s2809.r_.S_ at_2943) A2822 c2823 A2826 c2827 b2813 f2944 (hr2824.app _) hc2825 (hr2828.app _) hc2829 hB2945 (hS.st.part 1 [1, 0, 2, 3, 4] (by kernel_rfl)) (wp_bind hM) (fun x2953 x2954 at_2955 f2956 w hM h2957 hst => s_back hS.ev hst.appF rfl fun hS => ?_))
      replace hS : Ss _ _ _ H [f2956, f2811, f2818, f2831, f2949] F _ _ := hS
      refine wpList_nil (then_n ?_)
      have hcl2 := hcl.cons (k := 8) (nth_get rfl) hpre
      have hmust := must_cons (k := 8) hm (chain (k := 8) hcl (nth_get rfl) hpre [(1, 8), (3, 8), (7, 8), (0, 1), (2, 3), (6, 7), (5, 6), (4, 5)] [] rfl (fun _ h => absurd h List.not_mem_nil))
      replace hst := hS.st
      have hav2 := hav.cons (vals' := [some (ptr b2830 0), some (.slice A2822 c_2821.l_.length c2823), some (ptr b2830 1), some (.slice A2826 c_2821.codes_.length c2827), some (ptr b2810 0), some (ptr b2810 0), some (ptr b2810 0), some (ptr b2813 0), some (.tuple ⟨[.int .i64 x2953, .int .i64 x2954]⟩), some (.tuple ⟨[.int .i64 x2953, .int .i64 x2954]⟩), some (.int .i64 x2953), some (.int .i64 x2954), some (.int .i64 x2953), some (.int .i64 x2954)]) (k := 8) ⟨rfl, rfl, rfl, rfl, rfl, rfl, rfl, rfl, trivial⟩ rfl
      replace hA := (hA.next hav (subV.get (l' := [some (ptr b2830 0), some (.slice A2822 c_2821.l_.length c2823), some (ptr b2830 1), some (.slice A2826 c_2821.codes_.length c2827), some (ptr b2810 0), some (ptr b2810 0), some (ptr b2810 0), some (ptr b2813 0), some (.tuple ⟨[.int .i64 x2953, .int .i64 x2954]⟩), some (.tuple ⟨[.int .i64 x2953, .int .i64 x2954]⟩), some (.int .i64 x2953), some (.int .i64 x2954), some (.int .i64 x2953), some (.int .i64 x2954)]) ⟨rfl, rfl, rfl, rfl, rfl, rfl, rfl, rfl, trivial⟩)).step rfl (nth_get rfl) hk rfl rfl rfl
      clear hm hav
      replace hcl := hcl2
      refine phaseE (vals := [some (ptr b2830 0), some (.slice A2822 c_2821.l_.length c2823), some (ptr b2830 1), some (.slice A2826 c_2821.codes_.length c2827), some (ptr b2810 0), some (ptr b2810 0), some (ptr b2810 0), some (ptr b2813 0), some (.tuple ⟨[.int .i64 x2953, .int .i64 x2954]⟩), some (.tuple ⟨[.int .i64 x2953, .int .i64 x2954]⟩), some (.int .i64 x2953), some (.int .i64 x2954), some (.int .i64 x2953), some (.int .i64 x2954)]) [8, 1, 3, 7, 0, 2, 6, 5, 4] [9, 10, 11, 12, 13] rfl rfl rfl (by exact ⟨nR rfl rfl rfl rfl rfl (by exact ovE (mv rfl) rfl), nR rfl rfl rfl rfl rfl (by exact ovE (ex rfl rfl) rfl), nR rfl rfl rfl rfl rfl (by exact ovE (ex rfl rfl) rfl), nR rfl rfl rfl rfl rfl (by exact ovE (asg rfl) rfl), nR rfl rfl rfl rfl rfl (by exact ovE (asg rfl) rfl), trivial⟩) (fun a w hS => ?_) ho hcl hmust hA hst
      replace hS := hS.env2 (e' := [(0, ptr b2810 0), (1, .int .i64 n_2820), (5, ptr b2830 0), (8, .slice A2946 out2948.length c2947), (9, .int .i64 x2953), (10, .int .i64 x2954)]) ⟨rfl, rfl, rfl, rfl, rfl, rfl, trivial⟩
      refine then_n ?_
      refine wp_seq ?_
      refine wp_seq ?_
      refine wp_region_list ?_
      refine st1 hS (mv rfl) rfl fun a w hS => ?_
      refine st1 hS (bin rfl rfl rfl) rfl fun a w hS => ?_
      refine wpList_nil ?_
      refine then_n ?_
      refine s_cond hS rfl hM (fun hb2958 hM => ?_) (fun hb2958 hM => ?_)
      · refine wp_seq ?_
        refine wp_region_list ?_
        refine st1 hS (mv rfl) rfl fun a w hS => ?_
        refine st1 hS (asg rfl) rfl fun a w hS => ?_
        obtain ⟨f2959, hV2960, hS⟩ := hS.nilV 3 (ci .i64) 1
        refine st1 hS (asg rfl) rfl fun a w hS => ?_
        refine wpList_nil ?_
        refine then_n ?_
        refine wp_ret ?_
        refine then_ret (blk_ret (then_ret (blk_ret (then_ret ?_))))
        exact s_ret (rs := [6, 7]) hS rfl rfl (hret none (0) ([] : List Int) f2959 x2954 at_2955 f2956 w hM hV2960 h2957 (hS.st.pick [0, 2, 1, 3] (by kernel_rfl)))
      · refine wp_skip ?_
        refine then_n ?_
        refine wp_seq ?_
        refine wp_seq ?_
        refine wp_region_list ?_
        refine st1 hS (mv rfl) rfl fun a w hS => ?_
        refine st1 hS (bin rfl rfl rfl) rfl fun a w hS => ?_
        refine wpList_nil ?_
        refine then_n ?_
        refine s_cond hS rfl hM (fun hb2961 hM => ?_) (fun hb2961 hM => ?_)
        · refine wp_seq ?_
          refine wp_region_list ?_
          refine st1 hS (mv rfl) rfl fun a w hS => ?_
          refine st1 hS (mv rfl) rfl fun a w hS => ?_
          refine bsl (g := (ci .i64)) ([x2953] : List Int) [.int .i64 x2953] hS Tryd.runUnderlying74 Tryd.sizeOf3 X.el3 rfl rfl rfl (by simp [Value.cells]) rfl rfl rfl rfl rfl fun w A2962 c2963 f2964 hV2965 hS => ?_
          obtain ⟨hk2966, hM⟩ := wp_chk hM
          refine apV (ys := ([x2953] : List Int)) 5 hS rfl rfl hV2950 rfl (hV2965.rd (i := 0) rfl) Tryd.runUnderlying74 Tryd.runUnderlying74 X.el3 (fun _ => rfl) rfl one_t3 hk2966 rfl fun zs2971 w A2967 c2968 f2969 hz hV2970 hS => ?_
          have hM := lt_to hz hM; clear hz
          refine st1 hS (asg rfl) rfl fun a w hS => ?_
          refine wpList_nil ?_
          refine then_n ?_
          refine wp_exit ?_
          refine then_ex (blk_same (then_n ?_))
          exact hJ3049 _ _ ⟨at_2955, f2956, A2967, c2968, zs2971, f2969, hS.to [2, 1, 3, 4, 5] (by kernel_rfl) ⟨rfl, rfl, rfl, rfl, trivial⟩, h2957, hV2970, hM⟩
        · refine wp_skip ?_
          refine then_n ?_
          refine wp_seq ?_
          refine wp_region_list ?_
          refine st1 hS (asg rfl) rfl fun a w hS => ?_
          refine wpList_nil ?_
          refine then_n ?_
          refine wp_seq ?_
          refine wp_region_list ?_
          refine st1 hS (asg rfl) rfl fun a w hS => ?_
          refine wpList_nil ?_
          refine then_n ?_
          refine seq_joinJ (fun a w => ∃ (at_2996 : Int) (f2997 : Frag) (e_2999 : Int) (value3000 : Int) (times3001 : Int), Ss 87 [] [(0, ptr b2810 0), (1, .int .i64 n_2820), (5, ptr b2830 0), (8, .slice A2946 out2948.length c2947), (10, .int .i64 e_2999), (11, .int .i64 value3000), (12, .int .i64 times3001)] H [f2811, f2997, f2818, f2831, f2949] F a w ∧ (Blk f2997 b2813 ([str s2809.r_.S_, .int .i64 at_2996]) 57) ∧ (mortiseref07_state_row.j2 K (mortiseref07_state_row.l1 K s2809 n_2820 c_2821 k2951) n_2820 out2948 at_2996 e_2999 value3000 times3001).wp kr kp) (fun J3002 hJ3002 => ?_) ?_
          · refine wp_seq ?_
            refine wp_region_list ?_
            refine st1 hS (mv rfl) rfl fun a w hS => ?_
            refine wpList_nil ?_
            refine then_n ?_
            refine wp_block ?_
            refine wp_seq ?_
            refine wp_region_list ?_
            refine st1 hS (bin rfl rfl rfl) rfl fun a w hS => ?_
            refine st1x (v := Value.bool) hS (asg rfl) rfl fun v2972 a w hz hS => ?_
            have hM := lt_to hz hM; clear hz
            refine wpList_nil ?_
            refine then_n ?_
            refine s_cond hS rfl hM (fun hb2973 hM => ?_) (fun hb2973 hM => ?_)
            · refine wp_seq ?_
              refine wp_seq ?_
              refine wp_region_list ?_
              refine st1 hS (mv rfl) rfl fun a w hS => ?_
              refine st1 hS (lenV rfl Tryd.runUnderlying74) rfl fun a w hS => ?_
              refine st1 hS (bin rfl rfl rfl) rfl fun a w hS => ?_
              refine wpList_nil ?_
              refine then_n ?_
              refine s_cond hS rfl hM (fun hb2974 hM => ?_) (fun hb2974 hM => ?_)
              · refine wp_seq ?_
                refine wp_region_list ?_
                refine st1 hS (asg rfl) rfl fun a w hS => ?_
                obtain ⟨f2975, hV2976, hS⟩ := hS.nilV 3 (ci .i64) 1
                refine st1 hS (asg rfl) rfl fun a w hS => ?_
                refine wpList_nil ?_
                refine then_n ?_
                refine wp_ret ?_
                refine then_ret (blk_ret (then_ret (blk_ret (then_ret (blk_ret (then_ret ?_))))))
                exact s_ret (rs := [6, 7]) hS rfl rfl (hret none (0) ([] : List Int) f2975 (3 : Int) at_2955 f2956 w hM hV2976 h2957 (hS.st.pick [0, 2, 1, 3] (by kernel_rfl)))
              · refine wp_skip ?_
                refine then_n ?_
                refine wp_seq ?_
                refine wp_region_list ?_
                refine st1 hS (mv rfl) rfl fun a w hS => ?_
                refine st1 hS (mv rfl) rfl fun a w hS => ?_
                refine st1 hS (lenV rfl Tryd.runUnderlying74) rfl fun a w hS => ?_
                refine st1 hS (bin rfl rfl rfl) rfl fun a w hS => ?_
                obtain ⟨hk2977, hM⟩ := wp_chk hM
                refine st1 hS (ixV rfl rfl Tryd.runUnderlying74 Tryd.sizeOf3 (hV2950.rd (i := 4) rfl) (fun _ => rfl) rfl hk2977) rfl fun a w hS => ?_
                refine st1 hS (ldV0 rfl (hV2950.rd (i := 4) rfl) (fun _ => rfl) hk2977 rfl Tryd.isAgg3) rfl fun a w hS => ?_
                refine st1x (v := Value.int .i64) hS (asg rfl) rfl fun value2978 a w hz hS => ?_
                have hM := lt_to hz hM; clear hz
                refine wpList_nil ?_
                refine then_n ?_
                refine wp_region_list ?_
                refine st1 hS (mv rfl) rfl fun a w hS => ?_
                refine s_call hS rfl Tryd.call33 (mortiseref07_state_bits_c hG K (T_mortiseref07_state.mk (T_mortiseref05_Reader.mk s2809.r_.S_ at_2955) s2809.out_ s2809.limit_) (2 : Int) (3 : Int) b2810 f2811 b2813 f2956 A2816 c2817 f2818 hB2812 h2957 hV2819 (hS.st.part 3 [1, 0, 2, 3, 4] (by kernel_rfl)) (wp_bind hM) (fun x2979 x2980 at_2981 f2982 w hM h2983 hst => s_back hS.ev hst.appF rfl fun hS => ?_))
                replace hS : Ss _ _ _ H [f2811, f2982, f2818, f2831, f2949] F _ _ := hS
                refine st1 hS (mv rfl) rfl fun a w hS => ?_
                refine st1 hS (ex rfl rfl) rfl fun a w hS => ?_
                refine st1 hS (ex rfl rfl) rfl fun a w hS => ?_
                refine st1 hS (asg rfl) rfl fun a w hS => ?_
                refine st1 hS (asg rfl) rfl fun a w hS => ?_
                refine wpList_nil ?_
                refine blk_n (then_n ?_)
                exact hJ3002 _ _ ⟨at_2981, f2982, x2980, value2978, x2979, hS.to [0, 1, 2, 3, 4] (by kernel_rfl) ⟨rfl, rfl, rfl, rfl, rfl, rfl, rfl, trivial⟩, h2983, hM⟩
            · refine wp_seq ?_
              refine wp_region_list ?_
              refine st1 hS (bin rfl rfl rfl) rfl fun a w hS => ?_
              refine st1x (v := Value.bool) hS (asg rfl) rfl fun v2984 a w hz hS => ?_
              have hM := lt_to hz hM; clear hz
              refine wpList_nil ?_
              refine then_n ?_
              refine s_cond hS rfl hM (fun hb2985 hM => ?_) (fun hb2985 hM => ?_)
              · refine wp_region_list ?_
                refine st1 hS (mv rfl) rfl fun a w hS => ?_
                refine s_call hS rfl Tryd.call33 (mortiseref07_state_bits_c hG K (T_mortiseref07_state.mk (T_mortiseref05_Reader.mk s2809.r_.S_ at_2955) s2809.out_ s2809.limit_) (3 : Int) (3 : Int) b2810 f2811 b2813 f2956 A2816 c2817 f2818 hB2812 h2957 hV2819 (hS.st.part 3 [1, 0, 2, 3, 4] (by kernel_rfl)) (wp_bind hM) (fun x2986 x2987 at_2988 f2989 w hM h2990 hst => s_back hS.ev hst.appF rfl fun hS => ?_))
                replace hS : Ss _ _ _ H [f2811, f2989, f2818, f2831, f2949] F _ _ := hS
                refine st1 hS (mv rfl) rfl fun a w hS => ?_
                refine st1 hS (ex rfl rfl) rfl fun a w hS => ?_
                refine st1 hS (ex rfl rfl) rfl fun a w hS => ?_
                refine st1 hS (asg rfl) rfl fun a w hS => ?_
                refine st1 hS (asg rfl) rfl fun a w hS => ?_
                refine wpList_nil ?_
                refine blk_n (then_n ?_)
                exact hJ3002 _ _ ⟨at_2988, f2989, x2987, (0 : Int), x2986, hS.to [0, 1, 2, 3, 4] (by kernel_rfl) ⟨rfl, rfl, rfl, rfl, rfl, rfl, rfl, trivial⟩, h2990, hM⟩
              · refine wp_region_list ?_
                refine st1 hS (mv rfl) rfl fun a w hS => ?_
                refine s_call hS rfl Tryd.call33 (mortiseref07_state_bits_c hG K (T_mortiseref07_state.mk (T_mortiseref05_Reader.mk s2809.r_.S_ at_2955) s2809.out_ s2809.limit_) (7 : Int) (11 : Int) b2810 f2811 b2813 f2956 A2816 c2817 f2818 hB2812 h2957 hV2819 (hS.st.part 3 [1, 0, 2, 3, 4] (by kernel_rfl)) (wp_bind hM) (fun x2991 x2992 at_2993 f2994 w hM h2995 hst => s_back hS.ev hst.appF rfl fun hS => ?_))
                replace hS : Ss _ _ _ H [f2811, f2994, f2818, f2831, f2949] F _ _ := hS
                refine st1 hS (mv rfl) rfl fun a w hS => ?_
                refine st1 hS (ex rfl rfl) rfl fun a w hS => ?_
                refine st1 hS (ex rfl rfl) rfl fun a w hS => ?_
                refine st1 hS (asg rfl) rfl fun a w hS => ?_
                refine st1 hS (asg rfl) rfl fun a w hS => ?_
                refine wpList_nil ?_
                refine blk_n (then_n ?_)
                exact hJ3002 _ _ ⟨at_2993, f2994, x2992, (0 : Int), x2991, hS.to [0, 1, 2, 3, 4] (by kernel_rfl) ⟨rfl, rfl, rfl, rfl, rfl, rfl, rfl, trivial⟩, h2995, hM⟩
          · intro a w hI
            obtain ⟨at_2996, f2997, e_2999, value3000, times3001, hS, hB2998, hM⟩ := hI
            rw [mortiseref07_state_row.j2] at hM
            refine wp_seq ?_
            refine wp_seq ?_
            refine wp_region_list ?_
            refine st1 hS (mv rfl) rfl fun a w hS => ?_
            refine st1 hS (bin rfl rfl rfl) rfl fun a w hS => ?_
            refine wpList_nil ?_
            refine then_n ?_
            refine s_cond hS rfl hM (fun hb3003 hM => ?_) (fun hb3003 hM => ?_)
            · refine wp_seq ?_
              refine wp_region_list ?_
              refine st1 hS (mv rfl) rfl fun a w hS => ?_
              refine st1 hS (asg rfl) rfl fun a w hS => ?_
              obtain ⟨f3004, hV3005, hS⟩ := hS.nilV 3 (ci .i64) 1
              refine st1 hS (asg rfl) rfl fun a w hS => ?_
              refine wpList_nil ?_
              refine then_n ?_
              refine wp_ret ?_
              refine then_ret (blk_ret (then_ret (blk_ret (then_ret ?_))))
              exact s_ret (rs := [6, 7]) hS rfl rfl (hret none (0) ([] : List Int) f3004 e_2999 at_2996 f2997 w hM hV3005 hB2998 (hS.st.pick [0, 1, 2, 3] (by kernel_rfl)))
            · refine wp_skip ?_
              refine then_n ?_
              refine wp_seq ?_
              refine wp_seq ?_
              refine wp_region_list ?_
              refine st1 hS (mv rfl) rfl fun a w hS => ?_
              refine st1 hS (mv rfl) rfl fun a w hS => ?_
              refine st1 hS (mv rfl) rfl fun a w hS => ?_
              refine st1 hS (lenV rfl Tryd.runUnderlying74) rfl fun a w hS => ?_
              refine st1 hS (bin rfl rfl rfl) rfl fun a w hS => ?_
              refine st1 hS (bin rfl rfl rfl) rfl fun a w hS => ?_
              refine wpList_nil ?_
              refine then_n ?_
              refine s_cond hS rfl hM (fun hb3006 hM => ?_) (fun hb3006 hM => ?_)
              · refine wp_seq ?_
                refine wp_region_list ?_
                refine st1 hS (asg rfl) rfl fun a w hS => ?_
                obtain ⟨f3007, hV3008, hS⟩ := hS.nilV 3 (ci .i64) 1
                refine st1 hS (asg rfl) rfl fun a w hS => ?_
                refine wpList_nil ?_
                refine then_n ?_
                refine wp_ret ?_
                refine then_ret (blk_ret (then_ret (blk_ret (then_ret ?_))))
                exact s_ret (rs := [6, 7]) hS rfl rfl (hret none (0) ([] : List Int) f3007 (3 : Int) at_2996 f2997 w hM hV3008 hB2998 (hS.st.pick [0, 1, 2, 3] (by kernel_rfl)))
              · refine wp_skip ?_
                refine then_n ?_
                refine wp_seq ?_
                refine wp_region_list ?_
                refine st1 hS (asg rfl) rfl fun a w hS => ?_
                refine wpList_nil ?_
                refine then_n ?_
                refine wp_block ?_
                refine s_loopJ (fun k3035 a w => ∃ (A3029 : Option Addr) (c3030 : Nat) (out3031 : (List Int)) (f3032 : Frag) (i3034 : Int), Ss 87 [] [(0, ptr b2810 0), (1, .int .i64 n_2820), (5, ptr b2830 0), (8, .slice A3029 out3031.length c3030), (11, .int .i64 value3000), (12, .int .i64 times3001), (13, .int .i64 i3034)] H [f2811, f2997, f2818, f2831, f3032] F a w ∧ (Vec 3 (ci .i64) 1 A3029 out3031 c3030 f3032) ∧ (mortiseref07_state_row.l3 K (mortiseref07_state_row.l1 K s2809 n_2820 c_2821 k2951) at_2996 value3000 times3001 k3035 out3031 i3034).wp kr kp) K ?_ ?_ ?_
                · exact ⟨A2946, c2947, out2948, f2949, (0 : Int), hS.to [0, 1, 2, 3, 4] (by kernel_rfl) ⟨rfl, rfl, rfl, rfl, rfl, rfl, rfl, trivial⟩, hV2950, hM⟩
                · intro a w hI; obtain ⟨_, _, _, _, _, _, _, hM⟩ := hI; exact hM
                · intro k3035 a w hI J3048 hJ3048
                  obtain ⟨A3029, c3030, out3031, f3032, i3034, hS, hV3033, hM⟩ := hI
                  rw [mortiseref07_state_row.l3] at hM
                  refine wp_seq ?_
                  refine wp_seq ?_
                  refine wp_region_list ?_
                  refine st1 hS (mv rfl) rfl fun a w hS => ?_
                  refine st1 hS (mv rfl) rfl fun a w hS => ?_
                  refine st1 hS (bin rfl rfl rfl) rfl fun a w hS => ?_
                  refine wpList_nil ?_
                  refine then_n ?_
                  refine s_cond hS rfl hM (fun hb3036 hM => ?_) (fun hb3036 hM => ?_)
                  · refine wp_skip ?_
                    refine then_n ?_
                    refine wp_seq ?_
                    refine wp_block ?_
                    refine wp_region_list ?_
                    refine st1 hS (mv rfl) rfl fun a w hS => ?_
                    refine st1 hS (mv rfl) rfl fun a w hS => ?_
                    refine bsl (g := (ci .i64)) ([value3000] : List Int) [.int .i64 value3000] hS Tryd.runUnderlying74 Tryd.sizeOf3 X.el3 rfl rfl rfl (by simp [Value.cells]) rfl rfl rfl rfl rfl fun w A3037 c3038 f3039 hV3040 hS => ?_
                    obtain ⟨hk3041, hM⟩ := wp_chk hM
                    refine apV (ys := ([value3000] : List Int)) 5 hS rfl rfl hV3033 rfl (hV3040.rd (i := 0) rfl) Tryd.runUnderlying74 Tryd.runUnderlying74 X.el3 (fun _ => rfl) rfl one_t3 hk3041 rfl fun zs3046 w A3042 c3043 f3044 hz hV3045 hS => ?_
                    have hM := lt_to hz hM; clear hz
                    refine st1 hS (asg rfl) rfl fun a w hS => ?_
                    refine wpList_nil ?_
                    refine blk_n (then_n ?_)
                    refine wp_region_list ?_
                    refine st1 hS (mv rfl) rfl fun a w hS => ?_
                    refine st1 hS (bin rfl rfl rfl) rfl fun a w hS => ?_
                    refine st1x (v := Value.int .i64) hS (asg rfl) rfl fun i3047 a w hz hS => ?_
                    have hM := lt_to hz hM; clear hz
                    refine wpList_nil ?_
                    refine then_n ?_
                    exact hJ3048 _ _ ⟨A3042, c3043, zs3046, f3044, i3047, hS.to [1, 2, 3, 4, 5] (by kernel_rfl) ⟨rfl, rfl, rfl, rfl, rfl, rfl, rfl, trivial⟩, hV3045, hM⟩
                  · refine wp_exit ?_
                    refine then_ex (then_ex (blk_same (blk_n (then_n ?_))))
                    exact hJ3049 _ _ ⟨at_2996, f2997, A3029, c3030, out3031, f3032, hS.to [0, 1, 2, 3, 4] (by kernel_rfl) ⟨rfl, rfl, rfl, rfl, trivial⟩, hB2998, hV3033, hM⟩
    · refine wp_exit ?_
      refine then_ex (then_ex (blk_same (then_n ?_)))
      refine wp_seq ?_
      refine wp_region_list ?_
      refine st1 hS (mv rfl) rfl fun a w hS => ?_
      refine st1 hS (asg rfl) rfl fun a w hS => ?_
      refine st1 hS (asg rfl) rfl fun a w hS => ?_
      refine wpList_nil ?_
      refine then_n ?_
      refine wp_ret ?_
      exact s_ret (rs := [6, 7]) hS rfl rfl (hret A2946 c2947 out2948 f2949 (0 : Int) at_2943 f2944 w hM hV2950 hB2945 (hS.st.pick [4, 0, 1, 2] (by kernel_rfl)))

theorem mortiseref07_state_dynamic_c {H : Imm} {F : List Frag} {w : World} {R : Ending → World → Prop} {kr : (Int × Int × (List Int)) → Prop} {kp : Value → Prop} (hG : Gl H) (K : Nat) (s2580 : T_mortiseref07_state) (b2581 : Nat) (f2582 : Frag) (b2584 : Nat) (f2585 : Frag) (A2587 : Option Addr) (c2588 : Nat) (f2589 : Frag) (hB2583 : Blk f2582 b2581 ([ptr b2584 0, .slice A2587 s2580.out_.length c2588, .int .i64 s2580.limit_]) 59) (hB2586 : Blk f2585 b2584 ([str s2580.r_.S_, .int .i64 s2580.r_.At_]) 57) (hV2590 : Vec 5 (ci .u8) 1 A2587 s2580.out_ c2588 f2589)
    (hS : St w H [f2582, f2585, f2589] F) (hm : (mortiseref07_state_dynamic.m K s2580).wp kr kp)
    (hret : ∀ (x3126 : Int) (at_3127 : Int) (f3128 : Frag) (A3130 : Option Addr) (c3131 : Nat) (out3132 : (List Int)) (f3133 : Frag) (f3135 : Frag) (w : World), kr (x3126, at_3127, out3132) → (Blk f3128 b2584 ([str s2580.r_.S_, .int .i64 at_3127]) 57) → (Vec 5 (ci .u8) 1 A3130 out3132 c3131 f3133) → (Blk f3135 b2581 ([ptr b2584 0, .slice A3130 out3132.length c3131, .int .i64 s2580.limit_]) 59) → St w H [f3135, f3128, f3133] F → R (.returned (.int .i64 x3126)) w) :
    Calls Tryd.prog 38 ⟨[ptr b2581 0]⟩ w R := by
  refine enter Tryd.func38 rfl Tryd.ntmps38 rfl hS fun a w hS => ?_
  have hM := hm; clear hm
  rw [mortiseref07_state_dynamic.m] at hM
  refine wp_seq ?_
  refine wp_region_list ?_
  refine st1 hS (asg rfl) rfl fun a w hS => ?_
  refine wpList_nil ?_
  refine then_n ?_
  refine wp_seq ?_
  refine wp_region_list ?_
  refine st1 hS (mv rfl) rfl fun a w hS => ?_
  refine s_call hS rfl Tryd.call51 (mortiseref07_state_head_c hG K s2580 b2581 f2582 b2584 f2585 A2587 c2588 f2589 hB2583 hB2586 hV2590 (hS.st.part 3 [0, 1, 2] (by kernel_rfl)) (wp_bind hM) (fun x2783 x2784 A2785 c2786 l_2787 f2788 A2789 c2790 codes2791 f2792 x2793 at_2794 f2795 w hM h2796 h2797 h2798 hst => s_back hS.ev hst.appF rfl fun hS => ?_))
  replace hS : Ss _ _ _ H [f2788, f2792, f2582, f2795, f2589] F _ _ := hS
  refine st1 hS (mv rfl) rfl fun a w hS => ?_
  refine st1 hS (ex rfl rfl) rfl fun a w hS => ?_
  refine st1 hS (ex rfl rfl) rfl fun a w hS => ?_
  refine st1 hS (ex rfl rfl) rfl fun a w hS => ?_
  refine st1 hS (ex rfl rfl) rfl fun a w hS => ?_
  refine alc ([.slice none 0 0, .slice none 0 0]) hS Tryd.zeroValue78 rfl rfl fun w b2799 f2800 hB2801 hS => ?_
  obtain ⟨f2802, hV2803, hS⟩ := hS.nilV 3 (ci .i64) 1
  obtain ⟨f2804, hV2805, hS⟩ := hS.nilV 3 (ci .i64) 1
  refine st1 hS (asg rfl) rfl fun a w hS => ?_
  refine st1 hS (asg rfl) rfl fun a w hS => ?_
  refine stB 2 ([.slice A2785 l_2787.length c2786, .slice A2789 codes2791.length c2790]) ([.slice A2785 l_2787.length c2786, .slice A2789 codes2791.length c2790]) hS rfl rfl hB2801 rfl rfl Tryd.sizeOf78 (by simp [Value.oneCell']) (Nat.le_of_ble_eq_true rfl) rfl fun w f2806 hB2807 hS => ?_
  refine st1 hS (asg rfl) rfl fun a w hS => ?_
  refine wpList_nil ?_
  refine then_n ?_
  refine wp_seq ?_
  refine wp_seq ?_
  refine wp_region_list ?_
  refine st1 hS (mv rfl) rfl fun a w hS => ?_
  refine st1 hS (bin rfl rfl rfl) rfl fun a w hS => ?_
  refine wpList_nil ?_
  refine then_n ?_
  refine s_cond hS rfl hM (fun hb2808 hM => ?_) (fun hb2808 hM => ?_)
  · refine wp_seq ?_
    refine wp_region_list ?_
    refine st1 hS (mv rfl) rfl fun a w hS => ?_
    refine st1 hS (asg rfl) rfl fun a w hS => ?_
    refine wpList_nil ?_
    refine then_n ?_
    refine wp_ret ?_
    refine then_ret ?_
    exact s_ret (rs := [2]) hS rfl rfl (hret x2793 at_2794 f2795 A2587 c2588 s2580.out_ f2589 f2582 w hM h2798 hV2590 hB2583 (hS.st.pick [5, 6, 7] (by kernel_rfl)))
  · refine wp_skip ?_
    refine then_n ?_
    refine wp_seq ?_
    refine wp_region_list ?_
    refine st1 hS (mv rfl) rfl fun a w hS => ?_
    refine st1 hS (mv rfl) rfl fun a w hS => ?_
    refine st1 hS (mv rfl) rfl fun a w hS => ?_
    refine st1 hS (bin rfl rfl rfl) rfl fun a w hS => ?_
    refine st1 hS (ldbA 2 rfl hB2807 rfl ([.slice A2785 l_2787.length c2786, .slice A2789 codes2791.length c2790]) rfl rfl Tryd.isAgg78 Tryd.sizeOf78) rfl fun a w hS => ?_
    refine s_call hS rfl Tryd.call52 (mortiseref07_state_row_c hG K (T_mortiseref07_state.mk (T_mortiseref05_Reader.mk s2580.r_.S_ at_2794) s2580.out_ s2580.limit_) (w64 (x2783 + x2784)) (T_mortiseref07_code.mk l_2787 codes2791) b2581 f2582 b2584 f2795 A2587 c2588 f2589 A2785 c2786 A2789 c2790 hB2583 h2798 hV2590 (h2796.rdF (i := 3) rfl) (h2796.cap (fun _ => rfl) rfl) (h2797.rdF (i := 4) rfl) (h2797.cap (fun _ => rfl) rfl) (hS.st.part 3 [5, 6, 7, 0, 1, 2, 3, 4] (by kernel_rfl)) (wp_bind hM) (fun A3059 c3060 x3061 f3062 x3063 at_3064 f3065 w hM h3066 h3067 hst => s_back hS.ev hst.appF rfl fun hS => ?_))
    replace hS : Ss _ _ _ H [f3062, f2582, f3065, f2589, f2804, f2802, f2806, f2788, f2792] F _ _ := hS
    refine st1 hS (mv rfl) rfl fun a w hS => ?_
    refine st1 hS (ex rfl rfl) rfl fun a w hS => ?_
    refine st1 hS (ex rfl rfl) rfl fun a w hS => ?_
    refine st1 hS (asg rfl) rfl fun a w hS => ?_
    refine st1 hS (asg rfl) rfl fun a w hS => ?_
    refine wpList_nil ?_
    refine then_n ?_
    refine wp_seq ?_
    refine wp_seq ?_
    refine wp_region_list ?_
    refine st1 hS (mv rfl) rfl fun a w hS => ?_
    refine st1 hS (bin rfl rfl rfl) rfl fun a w hS => ?_
    refine wpList_nil ?_
    refine then_n ?_
    refine s_cond hS rfl hM (fun hb3068 hM => ?_) (fun hb3068 hM => ?_)
    · refine wp_seq ?_
      refine wp_region_list ?_
      refine st1 hS (mv rfl) rfl fun a w hS => ?_
      refine st1 hS (asg rfl) rfl fun a w hS => ?_
      refine wpList_nil ?_
      refine then_n ?_
      refine wp_ret ?_
      refine then_ret ?_
      exact s_ret (rs := [2]) hS rfl rfl (hret x3063 at_3064 f3065 A2587 c2588 s2580.out_ f2589 f2582 w hM h3067 hV2590 hB2583 (hS.st.pick [1, 2, 3] (by kernel_rfl)))
    · refine wp_skip ?_
      refine then_n ?_
      refine wp_seq ?_
      refine wp_region_list ?_
      refine st1 hS (mv rfl) rfl fun a w hS => ?_
      refine st1 hS (mv rfl) rfl fun a w hS => ?_
      obtain ⟨hk3069, hM⟩ := wp_chk hM
      refine slVx (g := (ci .i64)) hS rfl Tryd.runUnderlying74 Tryd.sizeOf3 lo0 (hiS rfl) (fun _ => rfl) (h3066.cap (fun _ => rfl) rfl) hk3069 rfl fun zs3070 A3071 c3072 a w hz hd3073 hc3074 hS => ?_
      have hM := lt_to hz hM; clear hz
      refine s_call hS rfl Tryd.call36 (mortiseref07_coded_c hG K zs3070 A3071 c3072 (hd3073 _ _ _ (h3066.rdF (i := 0) rfl)) hc3074 (hS.st.part 0 [0, 1, 2, 3, 4, 5, 6, 7, 8] (by kernel_rfl)) (wp_bind hM) (fun A3075 c3076 codes3077 f3078 x3079 w hM h3080 hst => s_back hS.ev hst.appF rfl fun hS => ?_))
      replace hS : Ss _ _ _ H [f3078, f3062, f2582, f3065, f2589, f2804, f2802, f2806, f2788, f2792] F _ _ := hS
      refine st1 hS (mv rfl) rfl fun a w hS => ?_
      refine st1 hS (ex rfl rfl) rfl fun a w hS => ?_
      refine st1 hS (ex rfl rfl) rfl fun a w hS => ?_
      refine alc ([.slice none 0 0, .slice none 0 0]) hS Tryd.zeroValue78 rfl rfl fun w b3081 f3082 hB3083 hS => ?_
      obtain ⟨f3084, hV3085, hS⟩ := hS.nilV 3 (ci .i64) 1
      obtain ⟨f3086, hV3087, hS⟩ := hS.nilV 3 (ci .i64) 1
      refine stB 2 ([.slice A3071 zs3070.length c3072, .slice A3075 codes3077.length c3076]) ([.slice A3071 zs3070.length c3072, .slice A3075 codes3077.length c3076]) hS rfl rfl hB3083 rfl rfl Tryd.sizeOf78 (by simp [Value.oneCell']) (Nat.le_of_ble_eq_true rfl) rfl fun w f3088 hB3089 hS => ?_
      refine st1 hS (asg rfl) rfl fun a w hS => ?_
      refine wpList_nil ?_
      refine then_n ?_
      refine wp_seq ?_
      refine wp_region_list ?_
      refine st1 hS (mv rfl) rfl fun a w hS => ?_
      refine st1 hS (mv rfl) rfl fun a w hS => ?_
      obtain ⟨hk3090, hM⟩ := wp_chk hM
      refine slVx (g := (ci .i64)) hS rfl Tryd.runUnderlying74 Tryd.sizeOf3 (loS rfl) hi0 (fun _ => rfl) (h3066.cap (fun _ => rfl) rfl) hk3090 rfl fun zs3091 A3092 c3093 a w hz hd3094 hc3095 hS => ?_
      have hM := lt_to hz hM; clear hz
      refine s_call hS rfl Tryd.call36 (mortiseref07_coded_c hG K zs3091 A3092 c3093 (hd3094 _ _ _ (h3066.rdF (i := 4) rfl)) hc3095 (hS.st.part 0 [0, 1, 2, 3, 4, 5, 6, 7, 8, 9, 10, 11, 12] (by kernel_rfl)) (wp_bind hM) (fun A3096 c3097 codes3098 f3099 x3100 w hM h3101 hst => s_back hS.ev hst.appF rfl fun hS => ?_))
      replace hS : Ss _ _ _ H [f3099, f3086, f3084, f3088, f3078, f3062, f2582, f3065, f2589, f2804, f2802, f2806, f2788, f2792] F _ _ := hS
      refine st1 hS (mv rfl) rfl fun a w hS => ?_
      refine st1 hS (ex rfl rfl) rfl fun a w hS => ?_
      refine st1 hS (ex rfl rfl) rfl fun a w hS => ?_
      refine alc ([.slice none 0 0, .slice none 0 0]) hS Tryd.zeroValue78 rfl rfl fun w b3102 f3103 hB3104 hS => ?_
      obtain ⟨f3105, hV3106, hS⟩ := hS.nilV 3 (ci .i64) 1
      obtain ⟨f3107, hV3108, hS⟩ := hS.nilV 3 (ci .i64) 1
      refine stB 2 ([.slice A3092 zs3091.length c3093, .slice A3096 codes3098.length c3097]) ([.slice A3092 zs3091.length c3093, .slice A3096 codes3098.length c3097]) hS rfl rfl hB3104 rfl rfl Tryd.sizeOf78 (by simp [Value.oneCell']) (Nat.le_of_ble_eq_true rfl) rfl fun w f3109 hB3110 hS => ?_
      refine st1 hS (asg rfl) rfl fun a w hS => ?_
      refine wpList_nil ?_
      refine then_n ?_
      refine wp_seq ?_
      refine wp_seq ?_
      refine wp_region_list ?_
      refine st1 hS (mv rfl) rfl fun a w hS => ?_
      refine st1 hS (un rfl rfl) rfl fun a w hS => ?_
      refine st1 hS (mv rfl) rfl fun a w hS => ?_
      refine g_op 2 false 51 (b := (!x3079)) (r := (!x3100)) hS rfl rfl rfl rfl rfl rfl rfl (fun hb a w hS K hK => ?_) rfl fun a w hS => ?_
      · refine st1g hS rfl rfl rfl hb (mv rfl) rfl fun a w hS => ?_
        refine st1g hS rfl rfl rfl hb (un rfl rfl) rfl fun a w hS => ?_
        exact wpList_nil (hK _ _ (hS.up 2 rfl rfl))
      refine st1 hS (mv rfl) rfl fun a w hS => ?_
      obtain ⟨hk3113, hM⟩ := wp_chk hM
      refine g_op 4 false 55 (b := ((!x3079) || (!x3100))) (r := ((rd x3061 (256 : Int)) == (0 : Int))) hS rfl rfl rfl rfl rfl rfl rfl (fun hb a w hS K hK => ?_) rfl fun a w hS => ?_
      · refine st1g hS rfl rfl rfl hb (mv rfl) rfl fun a w hS => ?_
        have hk3112 := imp_of hk3113 hb
        refine st1g hS rfl rfl rfl hb (ixV rfl rfl Tryd.runUnderlying74 Tryd.sizeOf3 (h3066.rd (i := 8) rfl) (fun _ => rfl) rfl hk3112) rfl fun a w hS => ?_
        refine st1g hS rfl rfl rfl hb (ldV0 rfl (h3066.rd (i := 8) rfl) (fun _ => rfl) hk3112 rfl Tryd.isAgg3) rfl fun a w hS => ?_
        refine st1g hS rfl rfl rfl hb (bin rfl rfl rfl) rfl fun a w hS => ?_
        exact wpList_nil (hK _ _ (hS.up 4 rfl rfl))
      refine wpList_nil ?_
      refine then_n ?_
      refine s_cond hS rfl hM (fun hb3114 hM => ?_) (fun hb3114 hM => ?_)
      · refine wp_seq ?_
        refine wp_region_list ?_
        refine st1 hS (asg rfl) rfl fun a w hS => ?_
        refine wpList_nil ?_
        refine then_n ?_
        refine wp_ret ?_
        refine then_ret ?_
        exact s_ret (rs := [2]) hS rfl rfl (hret (3 : Int) at_3064 f3065 A2587 c2588 s2580.out_ f2589 f2582 w hM h3067 hV2590 hB2583 (hS.st.pick [9, 10, 11] (by kernel_rfl)))
      · refine wp_skip ?_
        refine then_n ?_
        refine wp_seq ?_
        refine wp_region_list ?_
        refine st1 hS (mv rfl) rfl fun a w hS => ?_
        refine st1 hS (ldbA 6 rfl hB3089 rfl ([.slice A3071 zs3070.length c3072, .slice A3075 codes3077.length c3076]) rfl rfl Tryd.isAgg78 Tryd.sizeOf78) rfl fun a w hS => ?_
        refine st1 hS (ldbA 2 rfl hB3110 rfl ([.slice A3092 zs3091.length c3093, .slice A3096 codes3098.length c3097]) rfl rfl Tryd.isAgg78 Tryd.sizeOf78) rfl fun a w hS => ?_
        refine s_call hS rfl Tryd.call37 (mortiseref07_state_symbols_c hG K (T_mortiseref07_state.mk (T_mortiseref05_Reader.mk s2580.r_.S_ at_3064) s2580.out_ s2580.limit_) (T_mortiseref07_code.mk zs3070 codes3077) (T_mortiseref07_code.mk zs3091 codes3098) b2581 f2582 b2584 f3065 A2587 c2588 f2589 A3071 c3072 A3075 c3076 A3092 c3093 A3096 c3097 hB2583 h3067 hV2590 (hd3073 _ _ _ (h3066.rdF (i := 8) rfl)) hc3074 (h3080.rdF (i := 7) rfl) (h3080.cap (fun _ => rfl) rfl) (hd3094 _ _ _ (h3066.rdF (i := 8) rfl)) hc3095 (h3101.rdF (i := 3) rfl) (h3101.cap (fun _ => rfl) rfl) (hS.st.part 3 [9, 10, 11, 0, 1, 2, 3, 4, 5, 6, 7, 8, 12, 13, 14, 15, 16] (by kernel_rfl)) (wp_bind hM) (fun x3115 at_3116 f3117 A3118 c3119 out3120 f3121 f3122 w hM h3123 h3124 h3125 hst => s_back hS.ev hst.appF rfl fun hS => ?_))
        replace hS : Ss _ _ _ H [f3122, f3117, f3121, f3107, f3105, f3109, f3099, f3086, f3084, f3088, f3078, f3062, f2804, f2802, f2806, f2788, f2792] F _ _ := hS
        refine st1 hS (asg rfl) rfl fun a w hS => ?_
        refine wpList_nil ?_
        refine then_n ?_
        refine wp_ret ?_
        exact s_ret (rs := [2]) hS rfl rfl (hret x3115 at_3116 f3117 A3118 c3119 out3120 f3121 f3122 w hM h3123 h3124 h3125 (hS.st.pick [0, 1, 2] (by kernel_rfl)))

theorem mortiseref07_state_block_c {H : Imm} {F : List Frag} {w : World} {R : Ending → World → Prop} {kr : (Bool × Int × Int × (List Int)) → Prop} {kp : Value → Prop} (hG : Gl H) (K : Nat) (s1664 : T_mortiseref07_state) (b1665 : Nat) (f1666 : Frag) (b1668 : Nat) (f1669 : Frag) (A1671 : Option Addr) (c1672 : Nat) (f1673 : Frag) (hB1667 : Blk f1666 b1665 ([ptr b1668 0, .slice A1671 s1664.out_.length c1672, .int .i64 s1664.limit_]) 59) (hB1670 : Blk f1669 b1668 ([str s1664.r_.S_, .int .i64 s1664.r_.At_]) 57) (hV1674 : Vec 5 (ci .u8) 1 A1671 s1664.out_ c1672 f1673)
    (hS : St w H [f1666, f1669, f1673] F) (hm : (mortiseref07_state_block.m K s1664).wp kr kp)
    (hret : ∀ (x3149 : Bool) (x3150 : Int) (at_3151 : Int) (f3152 : Frag) (A3154 : Option Addr) (c3155 : Nat) (out3156 : (List Int)) (f3157 : Frag) (f3159 : Frag) (w : World), kr (x3149, x3150, at_3151, out3156) → (Blk f3152 b1668 ([str s1664.r_.S_, .int .i64 at_3151]) 57) → (Vec 5 (ci .u8) 1 A3154 out3156 c3155 f3157) → (Blk f3159 b1665 ([ptr b1668 0, .slice A3154 out3156.length c3155, .int .i64 s1664.limit_]) 59) → St w H [f3159, f3152, f3157] F → R (.returned (.tuple ⟨[.bool x3149, .int .i64 x3150]⟩)) w) :
    Calls Tryd.prog 23 ⟨[ptr b1665 0]⟩ w R := by
  refine enter Tryd.func23 rfl Tryd.ntmps23 rfl hS fun a w hS => ?_
  have hM := hm; clear hm
  rw [mortiseref07_state_block.m] at hM
  refine wp_seq ?_
  refine wp_region_list ?_
  refine st1 hS (asg rfl) rfl fun a w hS => ?_
  refine st1 hS (asg rfl) rfl fun a w hS => ?_
  refine wpList_nil ?_
  refine then_n ?_
  refine wp_seq ?_
  refine wp_region_list ?_
  refine st1 hS (mv rfl) rfl fun a w hS => ?_
  refine s_call hS rfl Tryd.call33 (mortiseref07_state_bits_c hG K s1664 (1 : Int) (0 : Int) b1665 f1666 b1668 f1669 A1671 c1672 f1673 hB1667 hB1670 hV1674 (hS.st.part 3 [0, 1, 2] (by kernel_rfl)) (wp_bind hM) (fun x1727 x1728 at_1729 f1730 w hM h1731 hst => s_back hS.ev hst.appF rfl fun hS => ?_))
  replace hS : Ss _ _ _ H [f1666, f1730, f1673] F _ _ := hS
  refine st1 hS (mv rfl) rfl fun a w hS => ?_
  refine st1 hS (ex rfl rfl) rfl fun a w hS => ?_
  refine st1 hS (ex rfl rfl) rfl fun a w hS => ?_
  refine st1 hS (asg rfl) rfl fun a w hS => ?_
  refine st1 hS (asg rfl) rfl fun a w hS => ?_
  refine wpList_nil ?_
  refine then_n ?_
  refine wp_seq ?_
  refine wp_seq ?_
  refine wp_region_list ?_
  refine st1 hS (mv rfl) rfl fun a w hS => ?_
  refine st1 hS (bin rfl rfl rfl) rfl fun a w hS => ?_
  refine wpList_nil ?_
  refine then_n ?_
  refine s_cond hS rfl hM (fun hb1732 hM => ?_) (fun hb1732 hM => ?_)
  · refine wp_seq ?_
    refine wp_region_list ?_
    refine st1 hS (mv rfl) rfl fun a w hS => ?_
    refine st1 hS (asg rfl) rfl fun a w hS => ?_
    refine st1 hS (asg rfl) rfl fun a w hS => ?_
    refine wpList_nil ?_
    refine then_n ?_
    refine wp_ret ?_
    refine then_ret ?_
    exact s_ret (rs := [2, 3]) hS rfl rfl (hret false x1728 at_1729 f1730 A1671 c1672 s1664.out_ f1673 f1666 w hM h1731 hV1674 hB1667 (hS.st.pick [0, 1, 2] (by kernel_rfl)))
  · refine wp_skip ?_
    refine then_n ?_
    refine wp_seq ?_
    refine wp_region_list ?_
    refine st1 hS (mv rfl) rfl fun a w hS => ?_
    refine s_call hS rfl Tryd.call33 (mortiseref07_state_bits_c hG K (T_mortiseref07_state.mk (T_mortiseref05_Reader.mk s1664.r_.S_ at_1729) s1664.out_ s1664.limit_) (2 : Int) (0 : Int) b1665 f1666 b1668 f1730 A1671 c1672 f1673 hB1667 h1731 hV1674 (hS.st.part 3 [0, 1, 2] (by kernel_rfl)) (wp_bind hM) (fun x1733 x1734 at_1735 f1736 w hM h1737 hst => s_back hS.ev hst.appF rfl fun hS => ?_))
    replace hS : Ss _ _ _ H [f1666, f1736, f1673] F _ _ := hS
    refine st1 hS (mv rfl) rfl fun a w hS => ?_
    refine st1 hS (ex rfl rfl) rfl fun a w hS => ?_
    refine st1 hS (ex rfl rfl) rfl fun a w hS => ?_
    refine st1 hS (asg rfl) rfl fun a w hS => ?_
    refine st1 hS (asg rfl) rfl fun a w hS => ?_
    refine wpList_nil ?_
    refine then_n ?_
    refine wp_seq ?_
    refine wp_seq ?_
    refine wp_region_list ?_
    refine st1 hS (mv rfl) rfl fun a w hS => ?_
    refine st1 hS (bin rfl rfl rfl) rfl fun a w hS => ?_
    refine wpList_nil ?_
    refine then_n ?_
    refine s_cond hS rfl hM (fun hb1738 hM => ?_) (fun hb1738 hM => ?_)
    · refine wp_seq ?_
      refine wp_region_list ?_
      refine st1 hS (mv rfl) rfl fun a w hS => ?_
      refine st1 hS (asg rfl) rfl fun a w hS => ?_
      refine st1 hS (asg rfl) rfl fun a w hS => ?_
      refine wpList_nil ?_
      refine then_n ?_
      refine wp_ret ?_
      refine then_ret ?_
      exact s_ret (rs := [2, 3]) hS rfl rfl (hret false x1734 at_1735 f1736 A1671 c1672 s1664.out_ f1673 f1666 w hM h1737 hV1674 hB1667 (hS.st.pick [0, 1, 2] (by kernel_rfl)))
    · refine wp_skip ?_
      refine then_n ?_
      refine wp_seq ?_
      refine wp_seq ?_
      refine wp_region_list ?_
      refine st1 hS (mv rfl) rfl fun a w hS => ?_
      refine wpList_nil ?_
      refine then_n ?_
      refine wp_block ?_
      refine wp_seq ?_
      refine wp_region_list ?_
      refine st1 hS (bin rfl rfl rfl) rfl fun a w hS => ?_
      refine st1x (v := Value.bool) hS (asg rfl) rfl fun v1739 a w hz hS => ?_
      have hM := lt_to hz hM; clear hz
      refine wpList_nil ?_
      refine then_n ?_
      refine s_cond hS rfl hM (fun hb1740 hM => ?_) (fun hb1740 hM => ?_)
      · refine wp_seq ?_
        refine wp_region_list ?_
        refine st1 hS (mv rfl) rfl fun a w hS => ?_
        refine st1 hS (bin rfl rfl rfl) rfl fun a w hS => ?_
        refine st1 hS (mv rfl) rfl fun a w hS => ?_
        refine s_call hS rfl Tryd.call34 (mortiseref07_state_stored_c hG K (T_mortiseref07_state.mk (T_mortiseref05_Reader.mk s1664.r_.S_ at_1735) s1664.out_ s1664.limit_) b1665 f1666 b1668 f1736 A1671 c1672 f1673 hB1667 h1737 hV1674 (hS.st.part 3 [0, 1, 2] (by kernel_rfl)) (wp_bind hM) (fun x1837 at_1838 f1839 A1840 c1841 out1842 f1843 f1844 w hM h1845 h1846 h1847 hst => s_back hS.ev hst.appF rfl fun hS => ?_))
        replace hS : Ss _ _ _ H [f1844, f1839, f1843] F _ _ := hS
        refine st1x (v := Value.bool) hS (asg rfl) rfl fun v1848 a w hz hS => ?_
        have hM := lt_to hz hM; clear hz
        refine st1 hS (asg rfl) rfl fun a w hS => ?_
        refine wpList_nil ?_
        refine then_n ?_
        refine wp_ret ?_
        refine blk_ret (then_ret ?_)
        exact s_ret (rs := [2, 3]) hS rfl rfl (hret v1848 x1837 at_1838 f1839 A1840 c1841 out1842 f1843 f1844 w hM h1845 h1846 h1847 (hS.st.pick [0, 1, 2] (by kernel_rfl)))
      · refine wp_seq ?_
        refine wp_region_list ?_
        refine st1 hS (bin rfl rfl rfl) rfl fun a w hS => ?_
        refine st1x (v := Value.bool) hS (asg rfl) rfl fun v1849 a w hz hS => ?_
        have hM := lt_to hz hM; clear hz
        refine wpList_nil ?_
        refine then_n ?_
        refine s_cond hS rfl hM (fun hb1850 hM => ?_) (fun hb1850 hM => ?_)
        · refine wp_seq ?_
          refine wp_region_list ?_
          refine s_call hS rfl Tryd.call35 (mortiseref07_Fixed_c hG K  (hS.st.part 0 [0, 1, 2] (by kernel_rfl)) (wp_bind hM) (fun A1965 c1966 x1967 f1968 A1969 c1970 x1971 f1972 w hM h1973 h1974 hst => s_back hS.ev hst.appF rfl fun hS => ?_))
          replace hS : Ss _ _ _ H [f1968, f1972, f1666, f1736, f1673] F _ _ := hS
          refine st1 hS (mv rfl) rfl fun a w hS => ?_
          refine st1 hS (ex rfl rfl) rfl fun a w hS => ?_
          refine st1 hS (ex rfl rfl) rfl fun a w hS => ?_
          refine st1 hS (asg rfl) rfl fun a w hS => ?_
          refine st1 hS (asg rfl) rfl fun a w hS => ?_
          refine wpList_nil ?_
          refine then_n ?_
          refine wp_seq ?_
          refine wp_region_list ?_
          refine st1 hS (mv rfl) rfl fun a w hS => ?_
          refine s_call hS rfl Tryd.call36 (mortiseref07_coded_c hG K x1967 A1965 c1966 (h1973.rdF (i := 0) rfl) (h1973.cap (fun _ => rfl) rfl) (hS.st.part 0 [0, 1, 2, 3, 4] (by kernel_rfl)) (wp_bind hM) (fun A2156 c2157 codes2158 f2159 x2160 w hM h2161 hst => s_back hS.ev hst.appF rfl fun hS => ?_))
          replace hS : Ss _ _ _ H [f2159, f1968, f1972, f1666, f1736, f1673] F _ _ := hS
          refine st1 hS (mv rfl) rfl fun a w hS => ?_
          refine st1 hS (ex rfl rfl) rfl fun a w hS => ?_
          refine st1 hS (ex rfl rfl) rfl fun a w hS => ?_
          refine alc ([.slice none 0 0, .slice none 0 0]) hS Tryd.zeroValue78 rfl rfl fun w b2162 f2163 hB2164 hS => ?_
          obtain ⟨f2165, hV2166, hS⟩ := hS.nilV 3 (ci .i64) 1
          obtain ⟨f2167, hV2168, hS⟩ := hS.nilV 3 (ci .i64) 1
          refine stB 2 ([.slice A1965 x1967.length c1966, .slice A2156 codes2158.length c2157]) ([.slice A1965 x1967.length c1966, .slice A2156 codes2158.length c2157]) hS rfl rfl hB2164 rfl rfl Tryd.sizeOf78 (by simp [Value.oneCell']) (Nat.le_of_ble_eq_true rfl) rfl fun w f2169 hB2170 hS => ?_
          refine st1 hS (asg rfl) rfl fun a w hS => ?_
          refine wpList_nil ?_
          refine then_n ?_
          refine wp_seq ?_
          refine wp_region_list ?_
          refine st1 hS (mv rfl) rfl fun a w hS => ?_
          refine s_call hS rfl Tryd.call36 (mortiseref07_coded_c hG K x1971 A1969 c1970 (h1974.rdF (i := 5) rfl) (h1974.cap (fun _ => rfl) rfl) (hS.st.part 0 [0, 1, 2, 3, 4, 5, 6, 7, 8] (by kernel_rfl)) (wp_bind hM) (fun A2171 c2172 codes2173 f2174 x2175 w hM h2176 hst => s_back hS.ev hst.appF rfl fun hS => ?_))
          replace hS : Ss _ _ _ H [f2174, f2167, f2165, f2169, f2159, f1968, f1972, f1666, f1736, f1673] F _ _ := hS
          refine st1 hS (mv rfl) rfl fun a w hS => ?_
          refine st1 hS (ex rfl rfl) rfl fun a w hS => ?_
          refine st1 hS (ex rfl rfl) rfl fun a w hS => ?_
          refine alc ([.slice none 0 0, .slice none 0 0]) hS Tryd.zeroValue78 rfl rfl fun w b2177 f2178 hB2179 hS => ?_
          obtain ⟨f2180, hV2181, hS⟩ := hS.nilV 3 (ci .i64) 1
          obtain ⟨f2182, hV2183, hS⟩ := hS.nilV 3 (ci .i64) 1
          refine stB 2 ([.slice A1969 x1971.length c1970, .slice A2171 codes2173.length c2172]) ([.slice A1969 x1971.length c1970, .slice A2171 codes2173.length c2172]) hS rfl rfl hB2179 rfl rfl Tryd.sizeOf78 (by simp [Value.oneCell']) (Nat.le_of_ble_eq_true rfl) rfl fun w f2184 hB2185 hS => ?_
          refine st1 hS (asg rfl) rfl fun a w hS => ?_
          refine wpList_nil ?_
          refine then_n ?_
          refine wp_seq ?_
          refine wp_region_list ?_
          refine st1 hS (mv rfl) rfl fun a w hS => ?_
          refine st1 hS (bin rfl rfl rfl) rfl fun a w hS => ?_
          refine st1 hS (mv rfl) rfl fun a w hS => ?_
          refine st1 hS (ldbA 6 rfl hB2170 rfl ([.slice A1965 x1967.length c1966, .slice A2156 codes2158.length c2157]) rfl rfl Tryd.isAgg78 Tryd.sizeOf78) rfl fun a w hS => ?_
          refine st1 hS (ldbA 2 rfl hB2185 rfl ([.slice A1969 x1971.length c1970, .slice A2171 codes2173.length c2172]) rfl rfl Tryd.isAgg78 Tryd.sizeOf78) rfl fun a w hS => ?_
          refine s_call hS rfl Tryd.call37 (mortiseref07_state_symbols_c hG K (T_mortiseref07_state.mk (T_mortiseref05_Reader.mk s1664.r_.S_ at_1735) s1664.out_ s1664.limit_) (T_mortiseref07_code.mk x1967 codes2158) (T_mortiseref07_code.mk x1971 codes2173) b1665 f1666 b1668 f1736 A1671 c1672 f1673 A1965 c1966 A2156 c2157 A1969 c1970 A2171 c2172 hB1667 h1737 hV1674 (h1973.rdF (i := 8) rfl) (h1973.cap (fun _ => rfl) rfl) (h2161.rdF (i := 7) rfl) (h2161.cap (fun _ => rfl) rfl) (h1974.rdF (i := 9) rfl) (h1974.cap (fun _ => rfl) rfl) (h2176.rdF (i := 3) rfl) (h2176.cap (fun _ => rfl) rfl) (hS.st.part 3 [10, 11, 12, 0, 1, 2, 3, 4, 5, 6, 7, 8, 9] (by kernel_rfl)) (wp_bind hM) (fun x2566 at_2567 f2568 A2569 c2570 out2571 f2572 f2573 w hM h2574 h2575 h2576 hst => s_back hS.ev hst.appF rfl fun hS => ?_))
          replace hS : Ss _ _ _ H [f2573, f2568, f2572, f2182, f2180, f2184, f2174, f2167, f2165, f2169, f2159, f1968, f1972] F _ _ := hS
          refine st1x (v := Value.bool) hS (asg rfl) rfl fun v2577 a w hz hS => ?_
          have hM := lt_to hz hM; clear hz
          refine st1 hS (asg rfl) rfl fun a w hS => ?_
          refine wpList_nil ?_
          refine then_n ?_
          refine wp_ret ?_
          refine blk_ret (then_ret ?_)
          exact s_ret (rs := [2, 3]) hS rfl rfl (hret v2577 x2566 at_2567 f2568 A2569 c2570 out2571 f2572 f2573 w hM h2574 h2575 h2576 (hS.st.pick [0, 1, 2] (by kernel_rfl)))
        · refine wp_seq ?_
          refine wp_region_list ?_
          refine st1 hS (bin rfl rfl rfl) rfl fun a w hS => ?_
          refine st1x (v := Value.bool) hS (asg rfl) rfl fun v2578 a w hz hS => ?_
          have hM := lt_to hz hM; clear hz
          refine wpList_nil ?_
          refine then_n ?_
          refine s_cond hS rfl hM (fun hb2579 hM => ?_) (fun hb2579 hM => ?_)
          · refine wp_seq ?_
            refine wp_region_list ?_
            refine st1 hS (mv rfl) rfl fun a w hS => ?_
            refine st1 hS (bin rfl rfl rfl) rfl fun a w hS => ?_
            refine st1 hS (mv rfl) rfl fun a w hS => ?_
            refine s_call hS rfl Tryd.call38 (mortiseref07_state_dynamic_c hG K (T_mortiseref07_state.mk (T_mortiseref05_Reader.mk s1664.r_.S_ at_1735) s1664.out_ s1664.limit_) b1665 f1666 b1668 f1736 A1671 c1672 f1673 hB1667 h1737 hV1674 (hS.st.part 3 [0, 1, 2] (by kernel_rfl)) (wp_bind hM) (fun x3137 at_3138 f3139 A3140 c3141 out3142 f3143 f3144 w hM h3145 h3146 h3147 hst => s_back hS.ev hst.appF rfl fun hS => ?_))
            replace hS : Ss _ _ _ H [f3144, f3139, f3143] F _ _ := hS
            refine st1x (v := Value.bool) hS (asg rfl) rfl fun v3148 a w hz hS => ?_
            have hM := lt_to hz hM; clear hz
            refine st1 hS (asg rfl) rfl fun a w hS => ?_
            refine wpList_nil ?_
            refine then_n ?_
            refine wp_ret ?_
            refine blk_ret (then_ret ?_)
            exact s_ret (rs := [2, 3]) hS rfl rfl (hret v3148 x3137 at_3138 f3139 A3140 c3141 out3142 f3143 f3144 w hM h3145 h3146 h3147 (hS.st.pick [0, 1, 2] (by kernel_rfl)))
          · refine wp_skip ?_
            refine blk_n (then_n ?_)
            refine wp_seq ?_
            refine wp_region_list ?_
            refine st1 hS (asg rfl) rfl fun a w hS => ?_
            refine st1 hS (asg rfl) rfl fun a w hS => ?_
            refine wpList_nil ?_
            refine then_n ?_
            refine wp_ret ?_
            exact s_ret (rs := [2, 3]) hS rfl rfl (hret false (3 : Int) at_1735 f1736 A1671 c1672 s1664.out_ f1673 f1666 w hM h1737 hV1674 hB1667 (hS.st.pick [0, 1, 2] (by kernel_rfl)))

theorem mortiseref07_Inflate_c {H : Imm} {F : List Frag} {w : World} {R : Ending → World → Prop} {kr : ((List UInt8) × Int × Int) → Prop} {kp : Value → Prop} (hG : Gl H) (K : Nat) (t1652 : List UInt8) (limit1653 : Int)
    (hS : St w H [] F) (hm : (mortiseref07_Inflate.m K t1652 limit1653).wp kr kp)
    (hret : ∀ (x3219 : List UInt8) (x3220 : Int) (x3221 : Int) (w : World), kr (x3219, x3220, x3221) → St w H [] F → R (.returned (.tuple ⟨[str x3219, .int .i64 x3220, .int .i64 x3221]⟩)) w) :
    Calls Tryd.prog 12 ⟨[str t1652, .int .i64 limit1653]⟩ w R := by
  refine enter Tryd.func12 rfl Tryd.ntmps12 rfl hS fun a w hS => ?_
  have hM := hm; clear hm
  rw [mortiseref07_Inflate.m] at hM
  refine wp_seq ?_
  refine wp_region_list ?_
  refine st1 hS (asg rfl) rfl fun a w hS => ?_
  refine st1 hS (asg rfl) rfl fun a w hS => ?_
  refine st1 hS (asg rfl) rfl fun a w hS => ?_
  refine wpList_nil ?_
  refine then_n ?_
  refine wp_seq ?_
  refine wp_seq ?_
  refine wp_region_list ?_
  refine st1 hS (mv rfl) rfl fun a w hS => ?_
  refine st1 hS (bin rfl rfl rfl) rfl fun a w hS => ?_
  refine st1 hS (mv rfl) rfl fun a w hS => ?_
  refine g_op 2 false 12 (b := (decide (limit1653 < (0 : Int)))) (r := (decide (limit1653 > (1073741824 : Int)))) hS rfl rfl rfl rfl rfl rfl rfl (fun hb a w hS K hK => ?_) rfl fun a w hS => ?_
  · refine st1g hS rfl rfl rfl hb (mv rfl) rfl fun a w hS => ?_
    refine st1g hS rfl rfl rfl hb (bin rfl rfl rfl) rfl fun a w hS => ?_
    exact wpList_nil (hK _ _ (hS.up 2 rfl rfl))
  refine wpList_nil ?_
  refine then_n ?_
  refine s_cond hS rfl hM (fun hb1654 hM => ?_) (fun hb1654 hM => ?_)
  · refine wp_seq ?_
    refine wp_region_list ?_
    refine st1 hS (asg rfl) rfl fun a w hS => ?_
    refine st1 hS (asg rfl) rfl fun a w hS => ?_
    refine st1 hS (asg rfl) rfl fun a w hS => ?_
    refine wpList_nil ?_
    refine then_n ?_
    refine wp_ret ?_
    refine then_ret ?_
    exact s_ret (rs := [4, 5, 6]) hS rfl rfl (hret ([] : List UInt8) (0 : Int) (1 : Int) w hM (hS.st.pick [] (by kernel_rfl)))
  · refine wp_skip ?_
    refine then_n ?_
    refine wp_seq ?_
    refine wp_region_list ?_
    refine st1 hS (mv rfl) rfl fun a w hS => ?_
    refine st1 hS (bld ([str t1652, .int .i64 (0 : Int)]) [(0, 1), (1, 1)] Tryd.zeroValue57 Tryd.runUnderlying57 (by intro w; simp [Tryd.sizeOf3, Tryd.sizeOf9]) rfl rfl) rfl fun a w hS => ?_
    refine bx ([str t1652, .int .i64 (0 : Int)]) hS rfl rfl rfl fun w b1655 f1656 hB1657 hS => ?_
    refine st1 hS (mv rfl) rfl fun a w hS => ?_
    refine st1 hS (bld ([ptr b1655 0, .slice none 0 0, .int .i64 limit1653]) [(0, 1), (1, 1), (2, 1)] Tryd.zeroValue59 Tryd.runUnderlying59 (by intro w; simp [Tryd.sizeOf27, Tryd.sizeOf3, Tryd.sizeOf55]) rfl rfl) rfl fun a w hS => ?_
    refine bx ([ptr b1655 0, .slice none 0 0, .int .i64 limit1653]) hS rfl rfl rfl fun w b1658 f1659 hB1660 hS => ?_
    obtain ⟨f1661, hV1662, hS⟩ := hS.nilV 5 (ci .u8) 1
    refine st1 hS (asg rfl) rfl fun a w hS => ?_
    refine wpList_nil ?_
    refine then_n ?_
    refine wp_block ?_
    refine s_loopJ (fun k3199 a w => ∃ (at_3189 : Int) (f3190 : Frag) (A3192 : Option Addr) (c3193 : Nat) (out3194 : (List Int)) (f3195 : Frag) (f3197 : Frag), Ss 45 [] [(7, ptr b1658 0)] H [f3197, f3190, f3195] F a w ∧ (Blk f3190 b1655 ([str t1652, .int .i64 at_3189]) 57) ∧ (Vec 5 (ci .u8) 1 A3192 out3194 c3193 f3195) ∧ (Blk f3197 b1658 ([ptr b1655 0, .slice A3192 out3194.length c3193, .int .i64 limit1653]) 59) ∧ (mortiseref07_Inflate.l1 K t1652 limit1653 k3199 at_3189 out3194).wp kr kp) K ?_ ?_ ?_
    · exact ⟨(0 : Int), f1656, none, 0, ([] : List Int), f1661, f1659, hS.to [1, 2, 0] (by kernel_rfl) ⟨rfl, trivial⟩, hB1657, hV1662, hB1660, hM⟩
    · intro a w hI; obtain ⟨_, _, _, _, _, _, _, _, _, _, _, hM⟩ := hI; exact hM
    · intro k3199 a w hI J3218 hJ3218
      obtain ⟨at_3189, f3190, A3192, c3193, out3194, f3195, f3197, hS, hB3191, hV3196, hB3198, hM⟩ := hI
      rw [mortiseref07_Inflate.l1] at hM
      refine wp_block ?_
      refine wp_seq ?_
      refine wp_region_list ?_
      refine st1 hS (mv rfl) rfl fun a w hS => ?_
      refine s_call hS rfl Tryd.call23 (mortiseref07_state_block_c hG K (T_mortiseref07_state.mk (T_mortiseref05_Reader.mk t1652 at_3189) out3194 limit1653) b1658 f3197 b1655 f3190 A3192 c3193 f3195 hB3198 hB3191 hV3196 (hS.st.part 3 [0, 1, 2] (by kernel_rfl)) (wp_bind hM) (fun x3200 x3201 at_3202 f3203 A3204 c3205 out3206 f3207 f3208 w hM h3209 h3210 h3211 hst => s_back hS.ev hst.appF rfl fun hS => ?_))
      replace hS : Ss _ _ _ H [f3208, f3203, f3207] F _ _ := hS
      refine st1 hS (mv rfl) rfl fun a w hS => ?_
      refine st1 hS (ex rfl rfl) rfl fun a w hS => ?_
      refine st1 hS (ex rfl rfl) rfl fun a w hS => ?_
      refine st1 hS (asg rfl) rfl fun a w hS => ?_
      refine st1 hS (asg rfl) rfl fun a w hS => ?_
      refine wpList_nil ?_
      refine then_n ?_
      refine wp_seq ?_
      refine wp_seq ?_
      refine wp_region_list ?_
      refine st1 hS (mv rfl) rfl fun a w hS => ?_
      refine st1 hS (bin rfl rfl rfl) rfl fun a w hS => ?_
      refine wpList_nil ?_
      refine then_n ?_
      refine s_cond hS rfl hM (fun hb3212 hM => ?_) (fun hb3212 hM => ?_)
      · refine wp_seq ?_
        refine wp_region_list ?_
        refine st1 hS (mv rfl) rfl fun a w hS => ?_
        refine st1 hS (asg rfl) rfl fun a w hS => ?_
        refine st1 hS (asg rfl) rfl fun a w hS => ?_
        refine st1 hS (asg rfl) rfl fun a w hS => ?_
        refine wpList_nil ?_
        refine then_n ?_
        refine wp_ret ?_
        refine then_ret (blk_ret (then_ret (blk_ret ?_)))
        exact s_ret (rs := [4, 5, 6]) hS rfl rfl (hret ([] : List UInt8) (0 : Int) x3201 w hM (hS.st.pick [] (by kernel_rfl)))
      · refine wp_skip ?_
        refine then_n ?_
        refine wp_seq ?_
        refine wp_region_list ?_
        refine st1 hS (mv rfl) rfl fun a w hS => ?_
        refine wpList_nil ?_
        refine then_n ?_
        refine s_cond hS rfl hM (fun hb3213 hM => ?_) (fun hb3213 hM => ?_)
        · refine wp_seq ?_
          obtain ⟨v3214, hz3215⟩ : ∃ x, x = (out3206.map tob) := ⟨_, rfl⟩
          replace hM := lt_to hz3215 hM
          obtain ⟨v3216, hz3217⟩ : ∃ x, x = (iquo .i64 (w64 (at_3202 + (7 : Int))) (8 : Int)) := ⟨_, rfl⟩
          replace hM := lt_to hz3217 hM
          refine draw_begin (vals := [some (ptr b1658 0), some (ptr b1658 0), some (ptr b1658 1), some (.slice A3204 out3206.length c3205), some (str (out3206.map tob)), some (ptr b1658 0), some (ptr b1658 0), some (ptr b1658 0), some (ptr b1655 0), some (ptr b1655 0), some (ptr b1655 1), some (.int .i64 at_3202), some (.int .i64 (w64 (at_3202 + (7 : Int)))), some (.int .i64 (iquo .i64 (w64 (at_3202 + (7 : Int))) (8 : Int))), some (str v3214), some (.int .i64 v3216), some (.int .i64 (0 : Int))]) hS mixed rfl ?_
          intro l w ho hcl hA hst
          refine phaseE (vals := [some (ptr b1658 0), some (ptr b1658 0), some (ptr b1658 1), some (.slice A3204 out3206.length c3205), some (str (out3206.map tob)), some (ptr b1658 0), some (ptr b1658 0), some (ptr b1658 0), some (ptr b1655 0), some (ptr b1655 0), some (ptr b1655 1), some (.int .i64 at_3202), some (.int .i64 (w64 (at_3202 + (7 : Int)))), some (.int .i64 (iquo .i64 (w64 (at_3202 + (7 : Int))) (8 : Int))), some (str v3214), some (.int .i64 v3216), some (.int .i64 (0 : Int))]) [] [0, 1, 2, 3, 4, 5, 6, 7, 8, 9, 10, 11, 12, 13, 14, 15, 16] rfl rfl rfl (by exact ⟨nR rfl rfl rfl rfl rfl (by exact ovE (mv rfl) rfl), nR rfl rfl rfl rfl rfl (by exact ovE (nck rfl) rfl), nR rfl rfl rfl rfl rfl (by exact ovE (fad rfl Tryd.runUnderlying59 rfl Tryd.sizeOf27 rfl) rfl), nR rfl rfl rfl rfl rfl (by exact ovE (ldb 0 rfl h3211 rfl rfl Tryd.isAgg27) rfl), nR rfl rfl rfl rfl rfl (by exact ovE (cbs rfl Tryd.runUnderlying27 Tryd.runUnderlying5 Tryd.runUnderlying9 (h3210.rd (i := 2) rfl)) rfl), nR rfl rfl rfl rfl rfl (by exact ovE (mv rfl) rfl), nR rfl rfl rfl rfl rfl (by exact ovE (nck rfl) rfl), nR rfl rfl rfl rfl rfl (by exact ovE (fad rfl Tryd.runUnderlying59 rfl Tryd.sizeOf55 rfl) rfl), nR rfl rfl rfl rfl rfl (by exact ovE (ldb 0 rfl h3211 rfl rfl Tryd.isAgg55) rfl), nR rfl rfl rfl rfl rfl (by exact ovE (nck rfl) rfl), nR rfl rfl rfl rfl rfl (by exact ovE (fad rfl Tryd.runUnderlying57 rfl Tryd.sizeOf3 rfl) rfl), nR rfl rfl rfl rfl rfl (by exact ovE (ldb 1 rfl h3209 rfl rfl Tryd.isAgg3) rfl), nR rfl rfl rfl rfl rfl (by exact ovE (bin rfl rfl rfl) rfl), nR rfl rfl rfl rfl rfl (by exact ovE (quo rfl rfl rfl) rfl), nR rfl rfl rfl rfl rfl (by exact ovE (asg rfl) (congrArg (str) hz3215.symm)), nR rfl rfl rfl rfl rfl (by exact ovE (asg rfl) (congrArg (Value.int .i64) hz3217.symm)), nR rfl rfl rfl rfl rfl (by exact ovE (asg rfl) rfl), trivial⟩) (fun a w hS => ?_) ho hcl (fun m hm => (List.not_mem_nil hm).elim) hA hst
          replace hS := hS.env2 (e' := [(4, str v3214), (5, .int .i64 v3216), (6, .int .i64 (0 : Int))]) ⟨rfl, rfl, rfl, trivial⟩
          refine then_n ?_
          refine wp_ret ?_
          refine blk_ret (then_ret (blk_ret ?_))
          exact s_ret (rs := [4, 5, 6]) hS rfl rfl (hret v3214 v3216 (0 : Int) w hM (hS.st.pick [] (by kernel_rfl)))
        · refine wp_skip ?_
          refine blk_n (then_n ?_)
          exact hJ3218 _ _ ⟨at_3202, f3203, A3204, c3205, out3206, f3207, f3208, hS.to [0, 1, 2] (by kernel_rfl) ⟨rfl, trivial⟩, h3209, h3210, h3211, hM⟩

theorem mortiseref03_AdlerMore_c {H : Imm} {F : List Frag} {w : World} {R : Ending → World → Prop} {kr : Int → Prop} {kp : Value → Prop} (hG : Gl H) (K : Nat) (a_3230 : Int) (s3231 : List UInt8)
    (hS : St w H [] F) (hm : (mortiseref03_AdlerMore.m K a_3230 s3231).wp kr kp)
    (hret : ∀ (x3248 : Int) (w : World), kr x3248 → St w H [] F → R (.returned (.int .u32 x3248)) w) :
    Calls Tryd.prog 24 ⟨[.int .u32 a_3230, str s3231]⟩ w R := by
  refine enter Tryd.func24 rfl Tryd.ntmps24 rfl hS fun a w hS => ?_
  have hM := hm; clear hm
  rw [mortiseref03_AdlerMore.m] at hM
  refine wp_seq ?_
  refine wp_region_list ?_
  refine st1 hS (asg rfl) rfl fun a w hS => ?_
  refine wpList_nil ?_
  refine then_n ?_
  refine wp_seq ?_
  refine wp_region_list ?_
  refine st1 hS (mv rfl) rfl fun a w hS => ?_
  refine st1 hS (rem rfl rfl rfl) rfl fun a w hS => ?_
  refine st1 hS (rem rfl rfl rfl) rfl fun a w hS => ?_
  refine st1x (v := Value.int .u32) hS (asg rfl) rfl fun x3232 a w hz hS => ?_
  have hM := lt_to hz hM; clear hz
  refine wpList_nil ?_
  refine then_n ?_
  refine wp_seq ?_
  refine wp_region_list ?_
  refine st1 hS (mv rfl) rfl fun a w hS => ?_
  refine st1 hS (quo rfl rfl rfl) rfl fun a w hS => ?_
  refine st1 hS (rem rfl rfl rfl) rfl fun a w hS => ?_
  refine st1x (v := Value.int .u32) hS (asg rfl) rfl fun y3233 a w hz hS => ?_
  have hM := lt_to hz hM; clear hz
  refine wpList_nil ?_
  refine then_n ?_
  refine seq_joinJ (fun a w => ∃ (x3244 : Int) (y3245 : Int), Ss 35 [] [(5, .int .u32 x3244), (6, .int .u32 y3245)] H [] F a w ∧ (mortiseref03_AdlerMore.j2 K x3244 y3245).wp kr kp) (fun J3246 hJ3246 => ?_) ?_
  · refine wp_seq ?_
    refine wp_region_list ?_
    refine st1 hS (asg rfl) rfl fun a w hS => ?_
    refine wpList_nil ?_
    refine then_n ?_
    refine wp_block ?_
    refine s_loopJ (fun k3237 a w => ∃ (x3234 : Int) (y3235 : Int) (i3236 : Int), Ss 35 [] [(1, str s3231), (5, .int .u32 x3234), (6, .int .u32 y3235), (7, .int .i64 i3236)] H [] F a w ∧ (mortiseref03_AdlerMore.l1 K s3231 k3237 x3234 y3235 i3236).wp kr kp) K ?_ ?_ ?_
    · exact ⟨x3232, y3233, (0 : Int), hS.to [] (by kernel_rfl) ⟨rfl, rfl, rfl, rfl, trivial⟩, hM⟩
    · intro a w hI; obtain ⟨_, _, _, _, hM⟩ := hI; exact hM
    · intro k3237 a w hI J3243 hJ3243
      obtain ⟨x3234, y3235, i3236, hS, hM⟩ := hI
      rw [mortiseref03_AdlerMore.l1] at hM
      refine wp_seq ?_
      refine wp_seq ?_
      refine wp_region_list ?_
      refine st1 hS (mv rfl) rfl fun a w hS => ?_
      refine st1 hS (mv rfl) rfl fun a w hS => ?_
      refine st1 hS (lenS rfl Tryd.runUnderlying9) rfl fun a w hS => ?_
      refine st1 hS (bin rfl rfl rfl) rfl fun a w hS => ?_
      refine wpList_nil ?_
      refine then_n ?_
      refine s_cond hS rfl hM (fun hb3238 hM => ?_) (fun hb3238 hM => ?_)
      · refine wp_skip ?_
        refine then_n ?_
        refine wp_seq ?_
        refine wp_block ?_
        refine wp_seq ?_
        refine wp_region_list ?_
        refine st1 hS (mv rfl) rfl fun a w hS => ?_
        refine st1 hS (mv rfl) rfl fun a w hS => ?_
        refine st1 hS (mv rfl) rfl fun a w hS => ?_
        obtain ⟨hk3239, hM⟩ := wp_chk hM
        refine st1 hS (ixs rfl rfl Tryd.runUnderlying9 hk3239) rfl fun a w hS => ?_
        refine st1 hS (cvi rfl Tryd.runUnderlying5 Tryd.runUnderlying37) rfl fun a w hS => ?_
        refine st1 hS (bin rfl rfl rfl) rfl fun a w hS => ?_
        refine st1 hS (rem rfl rfl rfl) rfl fun a w hS => ?_
        refine st1x (v := Value.int .u32) hS (asg rfl) rfl fun x3240 a w hz hS => ?_
        have hM := lt_to hz hM; clear hz
        refine wpList_nil ?_
        refine then_n ?_
        refine wp_region_list ?_
        refine st1 hS (mv rfl) rfl fun a w hS => ?_
        refine st1 hS (mv rfl) rfl fun a w hS => ?_
        refine st1 hS (bin rfl rfl rfl) rfl fun a w hS => ?_
        refine st1 hS (rem rfl rfl rfl) rfl fun a w hS => ?_
        refine st1x (v := Value.int .u32) hS (asg rfl) rfl fun y3241 a w hz hS => ?_
        have hM := lt_to hz hM; clear hz
        refine wpList_nil ?_
        refine blk_n (then_n ?_)
        refine wp_region_list ?_
        refine st1 hS (mv rfl) rfl fun a w hS => ?_
        refine st1 hS (bin rfl rfl rfl) rfl fun a w hS => ?_
        refine st1x (v := Value.int .i64) hS (asg rfl) rfl fun i3242 a w hz hS => ?_
        have hM := lt_to hz hM; clear hz
        refine wpList_nil ?_
        refine then_n ?_
        exact hJ3243 _ _ ⟨x3240, y3241, i3242, hS.to [] (by kernel_rfl) ⟨rfl, rfl, rfl, rfl, trivial⟩, hM⟩
      · refine wp_exit ?_
        refine then_ex (then_ex (blk_same (then_n ?_)))
        exact hJ3246 _ _ ⟨x3234, y3235, hS.to [] (by kernel_rfl) ⟨rfl, rfl, trivial⟩, hM⟩
  · intro a w hI
    obtain ⟨x3244, y3245, hS, hM⟩ := hI
    rw [mortiseref03_AdlerMore.j2] at hM
    refine wp_seq ?_
    refine wp_region_list ?_
    refine st1 hS (mv rfl) rfl fun a w hS => ?_
    refine st1 hS (bin rfl rfl rfl) rfl fun a w hS => ?_
    refine st1 hS (mv rfl) rfl fun a w hS => ?_
    refine st1 hS (bin rfl rfl rfl) rfl fun a w hS => ?_
    refine st1x (v := Value.int .u32) hS (asg rfl) rfl fun v3247 a w hz hS => ?_
    have hM := lt_to hz hM; clear hz
    refine wpList_nil ?_
    refine then_n ?_
    refine wp_ret ?_
    exact s_ret (rs := [4]) hS rfl rfl (hret v3247 w hM (hS.st.pick [] (by kernel_rfl)))

theorem mortiseref03_Adler_c {H : Imm} {F : List Frag} {w : World} {R : Ending → World → Prop} {kr : Int → Prop} {kp : Value → Prop} (hG : Gl H) (K : Nat) (s3229 : List UInt8)
    (hS : St w H [] F) (hm : (mortiseref03_Adler.m K s3229).wp kr kp)
    (hret : ∀ (x3250 : Int) (w : World), kr x3250 → St w H [] F → R (.returned (.int .u32 x3250)) w) :
    Calls Tryd.prog 14 ⟨[str s3229]⟩ w R := by
  refine enter Tryd.func14 rfl Tryd.ntmps14 rfl hS fun a w hS => ?_
  have hM := hm; clear hm
  rw [mortiseref03_Adler.m] at hM
  refine wp_seq ?_
  refine wp_region_list ?_
  refine st1 hS (asg rfl) rfl fun a w hS => ?_
  refine wpList_nil ?_
  refine then_n ?_
  refine wp_seq ?_
  refine wp_region_list ?_
  refine st1 hS (mv rfl) rfl fun a w hS => ?_
  refine s_call hS rfl Tryd.call24 (mortiseref03_AdlerMore_c hG K (1 : Int) s3229 (hS.st.part 0 [] (by kernel_rfl)) (wp_bind hM) (fun x3249 w hM  hst => s_back hS.ev hst.appF rfl fun hS => ?_))
  replace hS : Ss _ _ _ H [] F _ _ := hS
  refine st1 hS (asg rfl) rfl fun a w hS => ?_
  refine wpList_nil ?_
  refine then_n ?_
  refine wp_ret ?_
  exact s_ret (rs := [2]) hS rfl rfl (hret x3249 w hM (hS.st.pick [] (by kernel_rfl)))

theorem mortiseref10_Sum_c {H : Imm} {F : List Frag} {w : World} {R : Ending → World → Prop} {kr : (List UInt8) → Prop} {kp : Value → Prop} (hG : Gl H) (K : Nat) (n_3252 : Int)
    (hS : St w H [] F) (hm : (mortiseref10_Sum.m K n_3252).wp kr kp)
    (hret : ∀ (x3258 : List UInt8) (w : World), kr x3258 → St w H [] F → R (.returned (str x3258)) w) :
    Calls Tryd.prog 13 ⟨[.int .u32 n_3252]⟩ w R := by
  refine enter Tryd.func13 rfl Tryd.ntmps13 rfl hS fun a w hS => ?_
  have hM := hm; clear hm
  rw [mortiseref10_Sum.m] at hM
  refine wp_seq ?_
  refine wp_region_list ?_
  refine st1 hS (asg rfl) rfl fun a w hS => ?_
  refine wpList_nil ?_
  refine then_n ?_
  refine wp_seq ?_
  refine wp_region_list ?_
  refine st1 hS (mv rfl) rfl fun a w hS => ?_
  refine st1 hS (quo rfl rfl rfl) rfl fun a w hS => ?_
  refine st1 hS (cvi rfl Tryd.runUnderlying37 Tryd.runUnderlying5) rfl fun a w hS => ?_
  refine st1 hS (mv rfl) rfl fun a w hS => ?_
  refine st1 hS (quo rfl rfl rfl) rfl fun a w hS => ?_
  refine st1 hS (cvi rfl Tryd.runUnderlying37 Tryd.runUnderlying5) rfl fun a w hS => ?_
  refine st1 hS (mv rfl) rfl fun a w hS => ?_
  refine st1 hS (quo rfl rfl rfl) rfl fun a w hS => ?_
  refine st1 hS (cvi rfl Tryd.runUnderlying37 Tryd.runUnderlying5) rfl fun a w hS => ?_
  refine st1 hS (mv rfl) rfl fun a w hS => ?_
  refine st1 hS (cvi rfl Tryd.runUnderlying37 Tryd.runUnderlying5) rfl fun a w hS => ?_
  refine bsl (g := (ci .u8)) ([(wr .u8 (iquo .u32 n_3252 (16777216 : Int))), (wr .u8 (iquo .u32 n_3252 (65536 : Int))), (wr .u8 (iquo .u32 n_3252 (256 : Int))), (wr .u8 n_3252)] : List Int) [.int .u8 (wr .u8 (iquo .u32 n_3252 (16777216 : Int))), .int .u8 (wr .u8 (iquo .u32 n_3252 (65536 : Int))), .int .u8 (wr .u8 (iquo .u32 n_3252 (256 : Int))), .int .u8 (wr .u8 n_3252)] hS Tryd.runUnderlying27 Tryd.sizeOf5 X.el5 rfl rfl rfl (by simp [Value.cells]) rfl rfl rfl rfl rfl fun w A3253 c3254 f3255 hV3256 hS => ?_
  refine st1 hS (cbs rfl Tryd.runUnderlying27 Tryd.runUnderlying5 Tryd.runUnderlying9 (hV3256.rd (i := 0) rfl)) rfl fun a w hS => ?_
  refine st1x (v := str) hS (asg rfl) rfl fun v3257 a w hz hS => ?_
  have hM := lt_to hz hM; clear hz
  refine wpList_nil ?_
  refine then_n ?_
  refine wp_ret ?_
  exact s_ret (rs := [2]) hS rfl rfl (hret v3257 w hM (hS.st.pick [] (by kernel_rfl)))

theorem mortiseref10_Unzip_c {H : Imm} {F : List Frag} {w : World} {R : Ending → World → Prop} {kr : ((List UInt8) × Int × Int) → Prop} {kp : Value → Prop} (hG : Gl H) (K : Nat) (s1642 : List UInt8) (limit1643 : Int)
    (hS : St w H [] F) (hm : (mortiseref10_Unzip.m K s1642 limit1643).wp kr kp)
    (hret : ∀ (x3262 : List UInt8) (x3263 : Int) (x3264 : Int) (w : World), kr (x3262, x3263, x3264) → St w H [] F → R (.returned (.tuple ⟨[str x3262, .int .i64 x3263, .int .i64 x3264]⟩)) w) :
    Calls Tryd.prog 7 ⟨[str s1642, .int .i64 limit1643]⟩ w R := by
  refine enter Tryd.func7 rfl Tryd.ntmps7 rfl hS fun a w hS => ?_
  have hM := hm; clear hm
  rw [mortiseref10_Unzip.m] at hM
  refine wp_seq ?_
  refine wp_region_list ?_
  refine st1 hS (asg rfl) rfl fun a w hS => ?_
  refine st1 hS (asg rfl) rfl fun a w hS => ?_
  refine st1 hS (asg rfl) rfl fun a w hS => ?_
  refine wpList_nil ?_
  refine then_n ?_
  refine wp_seq ?_
  refine wp_seq ?_
  refine wp_region_list ?_
  refine st1 hS (mv rfl) rfl fun a w hS => ?_
  refine st1 hS (bin rfl rfl rfl) rfl fun a w hS => ?_
  refine st1 hS (mv rfl) rfl fun a w hS => ?_
  refine g_op 2 false 14 (b := (decide (limit1643 < (0 : Int)))) (r := (decide (limit1643 > (1073741824 : Int)))) hS rfl rfl rfl rfl rfl rfl rfl (fun hb a w hS K hK => ?_) rfl fun a w hS => ?_
  · refine st1g hS rfl rfl rfl hb (mv rfl) rfl fun a w hS => ?_
    refine st1g hS rfl rfl rfl hb (bin rfl rfl rfl) rfl fun a w hS => ?_
    exact wpList_nil (hK _ _ (hS.up 2 rfl rfl))
  refine wpList_nil ?_
  refine then_n ?_
  refine s_cond hS rfl hM (fun hb1644 hM => ?_) (fun hb1644 hM => ?_)
  · refine wp_seq ?_
    refine wp_region_list ?_
    refine st1 hS (asg rfl) rfl fun a w hS => ?_
    refine st1 hS (asg rfl) rfl fun a w hS => ?_
    refine st1 hS (asg rfl) rfl fun a w hS => ?_
    refine wpList_nil ?_
    refine then_n ?_
    refine wp_ret ?_
    refine then_ret ?_
    exact s_ret (rs := [4, 5, 6]) hS rfl rfl (hret ([] : List UInt8) (0 : Int) (1 : Int) w hM (hS.st.pick [] (by kernel_rfl)))
  · refine wp_skip ?_
    refine then_n ?_
    refine wp_seq ?_
    refine wp_seq ?_
    refine wp_region_list ?_
    refine st1 hS (mv rfl) rfl fun a w hS => ?_
    refine st1 hS (lenS rfl Tryd.runUnderlying9) rfl fun a w hS => ?_
    refine st1 hS (bin rfl rfl rfl) rfl fun a w hS => ?_
    refine wpList_nil ?_
    refine then_n ?_
    refine s_cond hS rfl hM (fun hb1645 hM => ?_) (fun hb1645 hM => ?_)
    · refine wp_seq ?_
      refine wp_region_list ?_
      refine st1 hS (asg rfl) rfl fun a w hS => ?_
      refine st1 hS (asg rfl) rfl fun a w hS => ?_
      refine st1 hS (asg rfl) rfl fun a w hS => ?_
      refine wpList_nil ?_
      refine then_n ?_
      refine wp_ret ?_
      refine then_ret ?_
      exact s_ret (rs := [4, 5, 6]) hS rfl rfl (hret ([] : List UInt8) (0 : Int) (2 : Int) w hM (hS.st.pick [] (by kernel_rfl)))
    · refine wp_skip ?_
      refine then_n ?_
      refine wp_seq ?_
      refine wp_region_list ?_
      refine st1 hS (mv rfl) rfl fun a w hS => ?_
      obtain ⟨hk1646, hM⟩ := wp_chk hM
      refine st1 hS (ixs rfl rfl Tryd.runUnderlying9 hk1646) rfl fun a w hS => ?_
      refine st1 hS (cvi rfl Tryd.runUnderlying5 Tryd.runUnderlying3) rfl fun a w hS => ?_
      refine st1x (v := Value.int .i64) hS (asg rfl) rfl fun a_1647 a w hz hS => ?_
      have hM := lt_to hz hM; clear hz
      refine wpList_nil ?_
      refine then_n ?_
      refine wp_seq ?_
      refine wp_region_list ?_
      refine st1 hS (mv rfl) rfl fun a w hS => ?_
      obtain ⟨hk1648, hM⟩ := wp_chk hM
      refine st1 hS (ixs rfl rfl Tryd.runUnderlying9 hk1648) rfl fun a w hS => ?_
      refine st1 hS (cvi rfl Tryd.runUnderlying5 Tryd.runUnderlying3) rfl fun a w hS => ?_
      refine st1x (v := Value.int .i64) hS (asg rfl) rfl fun b_1649 a w hz hS => ?_
      have hM := lt_to hz hM; clear hz
      refine wpList_nil ?_
      refine then_n ?_
      refine wp_seq ?_
      refine wp_seq ?_
      refine wp_region_list ?_
      refine st1 hS (mv rfl) rfl fun a w hS => ?_
      refine st1 hS (rem rfl rfl rfl) rfl fun a w hS => ?_
      refine st1 hS (bin rfl rfl rfl) rfl fun a w hS => ?_
      refine st1 hS (mv rfl) rfl fun a w hS => ?_
      refine g_op 3 false 30 (b := ((irem a_1647 (16 : Int)) != (8 : Int))) (r := (decide ((iquo .i64 a_1647 (16 : Int)) > (7 : Int)))) hS rfl rfl rfl rfl rfl rfl rfl (fun hb a w hS K hK => ?_) rfl fun a w hS => ?_
      · refine st1g hS rfl rfl rfl hb (mv rfl) rfl fun a w hS => ?_
        refine st1g hS rfl rfl rfl hb (quo rfl rfl rfl) rfl fun a w hS => ?_
        refine st1g hS rfl rfl rfl hb (bin rfl rfl rfl) rfl fun a w hS => ?_
        exact wpList_nil (hK _ _ (hS.up 3 rfl rfl))
      refine st1 hS (mv rfl) rfl fun a w hS => ?_
      refine g_op 6 false 35 (b := (((irem a_1647 (16 : Int)) != (8 : Int)) || (decide ((iquo .i64 a_1647 (16 : Int)) > (7 : Int))))) (r := ((irem (w64 ((w64 ((256 : Int) * a_1647)) + b_1649)) (31 : Int)) != (0 : Int))) hS rfl rfl rfl rfl rfl rfl rfl (fun hb a w hS K hK => ?_) rfl fun a w hS => ?_
      · refine st1g hS rfl rfl rfl hb (mv rfl) rfl fun a w hS => ?_
        refine st1g hS rfl rfl rfl hb (bin rfl rfl rfl) rfl fun a w hS => ?_
        refine st1g hS rfl rfl rfl hb (mv rfl) rfl fun a w hS => ?_
        refine st1g hS rfl rfl rfl hb (bin rfl rfl rfl) rfl fun a w hS => ?_
        refine st1g hS rfl rfl rfl hb (rem rfl rfl rfl) rfl fun a w hS => ?_
        refine st1g hS rfl rfl rfl hb (bin rfl rfl rfl) rfl fun a w hS => ?_
        exact wpList_nil (hK _ _ (hS.up 6 rfl rfl))
      refine st1 hS (mv rfl) rfl fun a w hS => ?_
      refine g_op 4 false 43 (b := ((((irem a_1647 (16 : Int)) != (8 : Int)) || (decide ((iquo .i64 a_1647 (16 : Int)) > (7 : Int)))) || ((irem (w64 ((w64 ((256 : Int) * a_1647)) + b_1649)) (31 : Int)) != (0 : Int)))) (r := ((irem (iquo .i64 b_1649 (32 : Int)) (2 : Int)) == (1 : Int))) hS rfl rfl rfl rfl rfl rfl rfl (fun hb a w hS K hK => ?_) rfl fun a w hS => ?_
      · refine st1g hS rfl rfl rfl hb (mv rfl) rfl fun a w hS => ?_
        refine st1g hS rfl rfl rfl hb (quo rfl rfl rfl) rfl fun a w hS => ?_
        refine st1g hS rfl rfl rfl hb (rem rfl rfl rfl) rfl fun a w hS => ?_
        refine st1g hS rfl rfl rfl hb (bin rfl rfl rfl) rfl fun a w hS => ?_
        exact wpList_nil (hK _ _ (hS.up 4 rfl rfl))
      refine wpList_nil ?_
      refine then_n ?_
      refine s_cond hS rfl hM (fun hb1650 hM => ?_) (fun hb1650 hM => ?_)
      · refine wp_seq ?_
        refine wp_region_list ?_
        refine st1 hS (asg rfl) rfl fun a w hS => ?_
        refine st1 hS (asg rfl) rfl fun a w hS => ?_
        refine st1 hS (asg rfl) rfl fun a w hS => ?_
        refine wpList_nil ?_
        refine then_n ?_
        refine wp_ret ?_
        refine then_ret ?_
        exact s_ret (rs := [4, 5, 6]) hS rfl rfl (hret ([] : List UInt8) (0 : Int) (3 : Int) w hM (hS.st.pick [] (by kernel_rfl)))
      · refine wp_skip ?_
        refine then_n ?_
        refine wp_seq ?_
        refine wp_region_list ?_
        refine st1 hS (mv rfl) rfl fun a w hS => ?_
        obtain ⟨hk1651, hM⟩ := wp_chk hM
        refine st1 hS (slS rfl Tryd.runUnderlying9 (loS rfl) hi0 hk1651) rfl fun a w hS => ?_
        refine st1 hS (mv rfl) rfl fun a w hS => ?_
        refine s_call hS rfl Tryd.call12 (mortiseref07_Inflate_c hG K (sub s1642 (2 : Int) (s1642.length : Int)) limit1643 (hS.st.part 0 [] (by kernel_rfl)) (wp_bind hM) (fun x3222 x3223 x3224 w hM  hst => s_back hS.ev hst.appF rfl fun hS => ?_))
        replace hS : Ss _ _ _ H [] F _ _ := hS
        refine st1 hS (mv rfl) rfl fun a w hS => ?_
        refine st1 hS (ex rfl rfl) rfl fun a w hS => ?_
        refine st1 hS (ex rfl rfl) rfl fun a w hS => ?_
        refine st1 hS (ex rfl rfl) rfl fun a w hS => ?_
        refine st1 hS (asg rfl) rfl fun a w hS => ?_
        refine st1 hS (asg rfl) rfl fun a w hS => ?_
        refine st1 hS (asg rfl) rfl fun a w hS => ?_
        refine wpList_nil ?_
        refine then_n ?_
        refine wp_seq ?_
        refine wp_seq ?_
        refine wp_region_list ?_
        refine st1 hS (mv rfl) rfl fun a w hS => ?_
        refine st1 hS (bin rfl rfl rfl) rfl fun a w hS => ?_
        refine wpList_nil ?_
        refine then_n ?_
        refine s_cond hS rfl hM (fun hb3225 hM => ?_) (fun hb3225 hM => ?_)
        · refine wp_seq ?_
          refine wp_region_list ?_
          refine st1 hS (mv rfl) rfl fun a w hS => ?_
          refine st1 hS (asg rfl) rfl fun a w hS => ?_
          refine st1 hS (asg rfl) rfl fun a w hS => ?_
          refine st1 hS (asg rfl) rfl fun a w hS => ?_
          refine wpList_nil ?_
          refine then_n ?_
          refine wp_ret ?_
          refine then_ret ?_
          exact s_ret (rs := [4, 5, 6]) hS rfl rfl (hret ([] : List UInt8) (0 : Int) x3224 w hM (hS.st.pick [] (by kernel_rfl)))
        · refine wp_skip ?_
          refine then_n ?_
          refine wp_seq ?_
          refine wp_seq ?_
          refine wp_region_list ?_
          refine st1 hS (mv rfl) rfl fun a w hS => ?_
          refine st1 hS (lenS rfl Tryd.runUnderlying9) rfl fun a w hS => ?_
          refine st1 hS (bin rfl rfl rfl) rfl fun a w hS => ?_
          refine st1 hS (mv rfl) rfl fun a w hS => ?_
          refine st1 hS (bin rfl rfl rfl) rfl fun a w hS => ?_
          refine st1 hS (bin rfl rfl rfl) rfl fun a w hS => ?_
          refine wpList_nil ?_
          refine then_n ?_
          refine s_cond hS rfl hM (fun hb3226 hM => ?_) (fun hb3226 hM => ?_)
          · refine wp_seq ?_
            refine wp_region_list ?_
            refine st1 hS (asg rfl) rfl fun a w hS => ?_
            refine st1 hS (asg rfl) rfl fun a w hS => ?_
            refine st1 hS (asg rfl) rfl fun a w hS => ?_
            refine wpList_nil ?_
            refine then_n ?_
            refine wp_ret ?_
            refine then_ret ?_
            exact s_ret (rs := [4, 5, 6]) hS rfl rfl (hret ([] : List UInt8) (0 : Int) (2 : Int) w hM (hS.st.pick [] (by kernel_rfl)))
          · refine wp_skip ?_
            refine then_n ?_
            refine wp_seq ?_
            refine wp_seq ?_
            obtain ⟨hk3228, hM⟩ := wp_chk hM
            refine draw_begin (vals := [some (str s1642), some (.int .i64 x3223), some (.int .i64 (w64 ((2 : Int) + x3223))), some (.int .i64 x3223), some (.int .i64 (w64 ((6 : Int) + x3223))), some (str (sub s1642 (w64 ((2 : Int) + x3223)) (w64 ((6 : Int) + x3223)))), some (str x3222), none, none, none]) hS mixed rfl ?_
            intro l w ho hcl hA hst
            refine phase' (vals := [some (str s1642), some (.int .i64 x3223), some (.int .i64 (w64 ((2 : Int) + x3223))), some (.int .i64 x3223), some (.int .i64 (w64 ((6 : Int) + x3223))), some (str (sub s1642 (w64 ((2 : Int) + x3223)) (w64 ((6 : Int) + x3223)))), some (str x3222), none, none, none]) 7 [] [0, 1, 2, 3, 4, 5, 6] rfl rfl rfl rfl (by exact ⟨nR rfl rfl rfl rfl rfl (by exact ovE (mv rfl) rfl), nR rfl rfl rfl rfl rfl (by exact ovE (mv rfl) rfl), nR rfl rfl rfl rfl rfl (by exact ovE (bin rfl rfl rfl) rfl), nR rfl rfl rfl rfl rfl (by exact ovE (mv rfl) rfl), nR rfl rfl rfl rfl rfl (by exact ovE (bin rfl rfl rfl) rfl), nR rfl rfl rfl rfl rfl (by exact ovE (slS rfl Tryd.runUnderlying9 (loS rfl) (hiS rfl) hk3228) rfl), nR rfl rfl rfl rfl rfl (by exact ovE (mv rfl) rfl), trivial⟩) (fun D l a w ho hcl hav hpre hm hE hk hA hst => ?_) ho hcl (fun j hj => (List.not_mem_nil hj).elim) (fun m hm => (List.not_mem_nil hm).elim) List.not_mem_nil hA hst
            have hS := (Ss.mk hE hst).env2 (e' := [(72, str x3222)]) ⟨rfl, trivial⟩
            refine op_of_nth rfl ?_
            refine s_call hS rfl Tryd.call14 (mortiseref03_Adler_c hG K x3222 (hS.st.part 0 [] (by kernel_rfl)) (wp_bind hM) (fun x3251 w hM  hst => s_back hS.ev hst.appF rfl fun hS => ?_))
            replace hS : Ss _ _ _ H [] F _ _ := hS
            refine wpList_nil (then_n ?_)
            have hcl2 := hcl.cons (k := 7) (nth_get rfl) hpre
            have hmust := must_cons (k := 7) hm (chain (k := 7) hcl (nth_get rfl) hpre [(6, 7)] [] rfl (fun _ h => absurd h List.not_mem_nil))
            replace hst := hS.st
            have hav2 := hav.cons (vals' := [some (str s1642), some (.int .i64 x3223), some (.int .i64 (w64 ((2 : Int) + x3223))), some (.int .i64 x3223), some (.int .i64 (w64 ((6 : Int) + x3223))), some (str (sub s1642 (w64 ((2 : Int) + x3223)) (w64 ((6 : Int) + x3223)))), some (str x3222), some (.int .u32 x3251), none, none]) (k := 7) ⟨rfl, rfl, rfl, rfl, rfl, rfl, rfl, trivial⟩ rfl
            replace hA := (hA.next hav (subV.get (l' := [some (str s1642), some (.int .i64 x3223), some (.int .i64 (w64 ((2 : Int) + x3223))), some (.int .i64 x3223), some (.int .i64 (w64 ((6 : Int) + x3223))), some (str (sub s1642 (w64 ((2 : Int) + x3223)) (w64 ((6 : Int) + x3223)))), some (str x3222), some (.int .u32 x3251), none, none]) ⟨rfl, rfl, rfl, rfl, rfl, rfl, rfl, trivial⟩)).step rfl (nth_get rfl) hk rfl rfl rfl
            clear hm hav
            replace hcl := hcl2
            refine phase' (vals := [some (str s1642), some (.int .i64 x3223), some (.int .i64 (w64 ((2 : Int) + x3223))), some (.int .i64 x3223), some (.int .i64 (w64 ((6 : Int) + x3223))), some (str (sub s1642 (w64 ((2 : Int) + x3223)) (w64 ((6 : Int) + x3223)))), some (str x3222), some (.int .u32 x3251), none, none]) 8 [7, 6] [0, 1, 2, 3, 4, 5] rfl rfl rfl rfl (by exact ⟨nR rfl rfl rfl rfl rfl (by exact ovE (mv rfl) rfl), nR rfl rfl rfl rfl rfl (by exact ovE (mv rfl) rfl), nR rfl rfl rfl rfl rfl (by exact ovE (bin rfl rfl rfl) rfl), nR rfl rfl rfl rfl rfl (by exact ovE (mv rfl) rfl), nR rfl rfl rfl rfl rfl (by exact ovE (bin rfl rfl rfl) rfl), nR rfl rfl rfl rfl rfl (by exact ovE (slS rfl Tryd.runUnderlying9 (loS rfl) (hiS rfl) hk3228) rfl), trivial⟩) (fun D l a w ho hcl hav hpre hm hE hk hA hst => ?_) ho hcl hav2 hmust (hav2.notin rfl) hA hst
            have hS := (Ss.mk hE hst).env2 (e' := [(73, .int .u32 x3251)]) ⟨rfl, trivial⟩
            refine op_of_nth rfl ?_
            refine s_call hS rfl Tryd.call13 (mortiseref10_Sum_c hG K x3251 (hS.st.part 0 [] (by kernel_rfl)) (wp_bind hM) (fun x3259 w hM  hst => s_back hS.ev hst.appF rfl fun hS => ?_))
            replace hS : Ss _ _ _ H [] F _ _ := hS
            refine wpList_nil (then_n ?_)
            have hcl2 := hcl.cons (k := 8) (nth_get rfl) hpre
            have hmust := must_cons (k := 8) hm (chain (k := 8) hcl (nth_get rfl) hpre [(7, 8), (6, 7)] [] rfl (fun _ h => absurd h List.not_mem_nil))
            replace hst := hS.st
            have hav2 := hav.cons (vals' := [some (str s1642), some (.int .i64 x3223), some (.int .i64 (w64 ((2 : Int) + x3223))), some (.int .i64 x3223), some (.int .i64 (w64 ((6 : Int) + x3223))), some (str (sub s1642 (w64 ((2 : Int) + x3223)) (w64 ((6 : Int) + x3223)))), some (str x3222), some (.int .u32 x3251), some (str x3259), some (.bool (!((sub s1642 (w64 ((2 : Int) + x3223)) (w64 ((6 : Int) + x3223))) == x3259)))]) (k := 8) ⟨rfl, rfl, rfl, rfl, rfl, rfl, rfl, rfl, trivial⟩ rfl
            replace hA := (hA.next hav (subV.get (l' := [some (str s1642), some (.int .i64 x3223), some (.int .i64 (w64 ((2 : Int) + x3223))), some (.int .i64 x3223), some (.int .i64 (w64 ((6 : Int) + x3223))), some (str (sub s1642 (w64 ((2 : Int) + x3223)) (w64 ((6 : Int) + x3223)))), some (str x3222), some (.int .u32 x3251), some (str x3259), some (.bool (!((sub s1642 (w64 ((2 : Int) + x3223)) (w64 ((6 : Int) + x3223))) == x3259)))]) ⟨rfl, rfl, rfl, rfl, rfl, rfl, rfl, rfl, trivial⟩)).step rfl (nth_get rfl) hk rfl rfl rfl
            clear hm hav
            replace hcl := hcl2
            refine phaseE (vals := [some (str s1642), some (.int .i64 x3223), some (.int .i64 (w64 ((2 : Int) + x3223))), some (.int .i64 x3223), some (.int .i64 (w64 ((6 : Int) + x3223))), some (str (sub s1642 (w64 ((2 : Int) + x3223)) (w64 ((6 : Int) + x3223)))), some (str x3222), some (.int .u32 x3251), some (str x3259), some (.bool (!((sub s1642 (w64 ((2 : Int) + x3223)) (w64 ((6 : Int) + x3223))) == x3259)))]) [8, 7, 6, 7, 6] [0, 1, 2, 3, 4, 5, 9] rfl rfl rfl (by exact ⟨nR rfl rfl rfl rfl rfl (by exact ovE (mv rfl) rfl), nR rfl rfl rfl rfl rfl (by exact ovE (mv rfl) rfl), nR rfl rfl rfl rfl rfl (by exact ovE (bin rfl rfl rfl) rfl), nR rfl rfl rfl rfl rfl (by exact ovE (mv rfl) rfl), nR rfl rfl rfl rfl rfl (by exact ovE (bin rfl rfl rfl) rfl), nR rfl rfl rfl rfl rfl (by exact ovE (slS rfl Tryd.runUnderlying9 (loS rfl) (hiS rfl) hk3228) rfl), nR rfl rfl rfl rfl rfl (by exact ovE (bins rfl rfl rfl) rfl), trivial⟩) (fun a w hS => ?_) ho hcl hmust hA hst
            replace hS := hS.env2 (e' := [(9, str x3222), (10, .int .i64 x3223), (75, .bool (!((sub s1642 (w64 ((2 : Int) + x3223)) (w64 ((6 : Int) + x3223))) == x3259)))]) ⟨rfl, rfl, rfl, trivial⟩
            refine then_n ?_
            refine s_cond hS rfl hM (fun hb3260 hM => ?_) (fun hb3260 hM => ?_)
            · refine wp_seq ?_
              refine wp_region_list ?_
              refine st1 hS (asg rfl) rfl fun a w hS => ?_
              refine st1 hS (asg rfl) rfl fun a w hS => ?_
              refine st1 hS (asg rfl) rfl fun a w hS => ?_
              refine wpList_nil ?_
              refine then_n ?_
              refine wp_ret ?_
              refine then_ret ?_
              exact s_ret (rs := [4, 5, 6]) hS rfl rfl (hret ([] : List UInt8) (0 : Int) (4 : Int) w hM (hS.st.pick [] (by kernel_rfl)))
            · refine wp_skip ?_
              refine then_n ?_
              refine wp_seq ?_
              refine wp_region_list ?_
              refine st1 hS (mv rfl) rfl fun a w hS => ?_
              refine st1 hS (mv rfl) rfl fun a w hS => ?_
              refine st1 hS (bin rfl rfl rfl) rfl fun a w hS => ?_
              refine st1 hS (asg rfl) rfl fun a w hS => ?_
              refine st1x (v := Value.int .i64) hS (asg rfl) rfl fun v3261 a w hz hS => ?_
              have hM := lt_to hz hM; clear hz
              refine st1 hS (asg rfl) rfl fun a w hS => ?_
              refine wpList_nil ?_
              refine then_n ?_
              refine wp_ret ?_
              exact s_ret (rs := [4, 5, 6]) hS rfl rfl (hret x3222 v3261 (0 : Int) w hM (hS.st.pick [] (by kernel_rfl)))

theorem mortiselaw10_ZlibReads_c {H : Imm} {F : List Frag} {w : World} {R : Ending → World → Prop} {kr : Bool → Prop} {kp : Value → Prop} (hG : Gl H) (K : Nat) (s1 : List UInt8) (limit2 : Int)
    (hS : St w H [] F) (hm : (mortiselaw10_ZlibReads.m K s1 limit2).wp kr kp)
    (hret : ∀ (x3272 : Bool) (w : World), kr x3272 → St w H [] F → R (.returned (.bool x3272)) w) :
    Calls Tryd.prog 3 ⟨[str s1, .int .i64 limit2]⟩ w R := by
  refine enter Tryd.func3 rfl Tryd.ntmps3 rfl hS fun a w hS => ?_
  have hM := hm; clear hm
  rw [mortiselaw10_ZlibReads.m] at hM
  refine wp_seq ?_
  refine wp_region_list ?_
  refine st1 hS (asg rfl) rfl fun a w hS => ?_
  refine wpList_nil ?_
  refine then_n ?_
  refine wp_seq ?_
  refine wp_seq ?_
  refine wp_region_list ?_
  refine st1 hS (mv rfl) rfl fun a w hS => ?_
  refine st1 hS (lenS rfl Tryd.runUnderlying9) rfl fun a w hS => ?_
  refine st1 hS (bin rfl rfl rfl) rfl fun a w hS => ?_
  refine st1 hS (mv rfl) rfl fun a w hS => ?_
  refine g_op 2 false 14 (b := (decide ((s1.length : Int) > (3000 : Int)))) (r := (decide (limit2 > (40000 : Int)))) hS rfl rfl rfl rfl rfl rfl rfl (fun hb a w hS K hK => ?_) rfl fun a w hS => ?_
  · refine st1g hS rfl rfl rfl hb (mv rfl) rfl fun a w hS => ?_
    refine st1g hS rfl rfl rfl hb (bin rfl rfl rfl) rfl fun a w hS => ?_
    exact wpList_nil (hK _ _ (hS.up 2 rfl rfl))
  refine wpList_nil ?_
  refine then_n ?_
  refine s_cond hS rfl hM (fun hb3 hM => ?_) (fun hb3 hM => ?_)
  · refine wp_seq ?_
    refine wp_region_list ?_
    refine s_call hS rfl Tryd.call5 (mortiselaw10_live_c hG K  (hS.st.part 0 [] (by kernel_rfl)) (wp_bind hM) (fun x1638 w hM  hst => s_back hS.ev hst.appF rfl fun hS => ?_))
    replace hS : Ss _ _ _ H [] F _ _ := hS
    refine st1 hS (asg rfl) rfl fun a w hS => ?_
    refine wpList_nil ?_
    refine then_n ?_
    refine wp_ret ?_
    refine then_ret ?_
    exact s_ret (rs := [4]) hS rfl rfl (hret x1638 w hM (hS.st.pick [] (by kernel_rfl)))
  · refine wp_skip ?_
    refine then_n ?_
    refine wp_seq ?_
    refine wp_region_list ?_
    refine st1 hS (mv rfl) rfl fun a w hS => ?_
    refine st1 hS (mv rfl) rfl fun a w hS => ?_
    refine s_call hS rfl Tryd.call6 (zlib_Unzip_c hG K s1 limit2 (hS.st.part 0 [] (by kernel_rfl)) (wp_bind hM) (fun x1639 x1640 x1641 w hM  hst => s_back hS.ev hst.appF rfl fun hS => ?_))
    replace hS : Ss _ _ _ H [] F _ _ := hS
    refine st1 hS (mv rfl) rfl fun a w hS => ?_
    refine st1 hS (ex rfl rfl) rfl fun a w hS => ?_
    refine st1 hS (ex rfl rfl) rfl fun a w hS => ?_
    refine st1 hS (ex rfl rfl) rfl fun a w hS => ?_
    refine st1 hS (asg rfl) rfl fun a w hS => ?_
    refine st1 hS (asg rfl) rfl fun a w hS => ?_
    refine st1 hS (asg rfl) rfl fun a w hS => ?_
    refine wpList_nil ?_
    refine then_n ?_
    refine wp_seq ?_
    refine wp_region_list ?_
    refine st1 hS (mv rfl) rfl fun a w hS => ?_
    refine st1 hS (mv rfl) rfl fun a w hS => ?_
    refine s_call hS rfl Tryd.call7 (mortiseref10_Unzip_c hG K s1 limit2 (hS.st.part 0 [] (by kernel_rfl)) (wp_bind hM) (fun x3265 x3266 x3267 w hM  hst => s_back hS.ev hst.appF rfl fun hS => ?_))
    replace hS : Ss _ _ _ H [] F _ _ := hS
    refine st1 hS (mv rfl) rfl fun a w hS => ?_
    refine st1 hS (ex rfl rfl) rfl fun a w hS => ?_
    refine st1 hS (ex rfl rfl) rfl fun a w hS => ?_
    refine st1 hS (ex rfl rfl) rfl fun a w hS => ?_
    refine st1 hS (asg rfl) rfl fun a w hS => ?_
    refine st1 hS (asg rfl) rfl fun a w hS => ?_
    refine st1 hS (asg rfl) rfl fun a w hS => ?_
    refine wpList_nil ?_
    refine then_n ?_
    refine wp_seq ?_
    refine wp_region_list ?_
    refine st1 hS (mv rfl) rfl fun a w hS => ?_
    refine st1 hS (mv rfl) rfl fun a w hS => ?_
    refine st1 hS (bins rfl rfl rfl) rfl fun a w hS => ?_
    refine st1 hS (mv rfl) rfl fun a w hS => ?_
    refine g_op 3 true 36 (b := (x1639 == x3265)) (r := (x1640 == x3266)) hS rfl rfl rfl rfl rfl rfl rfl (fun hb a w hS K hK => ?_) rfl fun a w hS => ?_
    · refine st1g hS rfl rfl rfl hb (mv rfl) rfl fun a w hS => ?_
      refine st1g hS rfl rfl rfl hb (mv rfl) rfl fun a w hS => ?_
      refine st1g hS rfl rfl rfl hb (bin rfl rfl rfl) rfl fun a w hS => ?_
      exact wpList_nil (hK _ _ (hS.up 3 rfl rfl))
    refine st1 hS (mv rfl) rfl fun a w hS => ?_
    refine g_op 3 true 41 (b := ((x1639 == x3265) && (x1640 == x3266))) (r := (x1641 == x3267)) hS rfl rfl rfl rfl rfl rfl rfl (fun hb a w hS K hK => ?_) rfl fun a w hS => ?_
    · refine st1g hS rfl rfl rfl hb (mv rfl) rfl fun a w hS => ?_
      refine st1g hS rfl rfl rfl hb (mv rfl) rfl fun a w hS => ?_
      refine st1g hS rfl rfl rfl hb (bin rfl rfl rfl) rfl fun a w hS => ?_
      exact wpList_nil (hK _ _ (hS.up 3 rfl rfl))
    refine st1 hS (mv rfl) rfl fun a w hS => ?_
    refine seg_cutJ (fun a w => ∃ (v3270 : Bool), Ss 49 [] [(48, .bool v3270)] H [] F a w ∧ (mortiselaw10_ZlibReads.j1 K v3270).wp kr kp) 2 (fun J3271 hJ3271 => ?_) ?_
    · refine ifB (b := (((x1639 == x3265) && (x1640 == x3266)) && (x1641 == x3267))) hM (fun hb3268 hM => ?_) (fun hb3268 hM => ?_)
      · replace hS := hS.re 45 (v := .bool true) rfl (congrArg Value.bool hb3268)
        replace hS := hS.re 46 (v := .bool true) rfl (congrArg Value.bool hb3268)
        refine unguard hS rfl rfl rfl rfl ?_
        refine s_call hS rfl Tryd.call5 (mortiselaw10_live_c hG K  (hS.st.part 0 [] (by kernel_rfl)) (wp_bind hM) (fun x3269 w hM  hst => s_back hS.ev hst.appF rfl fun hS => ?_))
        replace hS : Ss _ _ _ H [] F _ _ := hS
        refine st1 hS (pk rfl rfl rfl) rfl fun a w hS => ?_
        refine wpList_nil ?_
        refine then_n ?_
        exact hJ3271 _ _ ⟨x3269, hS.to [] (by kernel_rfl) ⟨rfl, trivial⟩, hM⟩
      · replace hS := hS.re 45 (v := .bool false) rfl (congrArg Value.bool hb3268)
        replace hS := hS.re 46 (v := .bool false) rfl (congrArg Value.bool hb3268)
        refine skips 1 hS rfl fun a w hS => ?_
        refine st1 hS (pk rfl rfl rfl) rfl fun a w hS => ?_
        refine wpList_nil ?_
        refine then_n ?_
        exact hJ3271 _ _ ⟨false, hS.to [] (by kernel_rfl) ⟨rfl, trivial⟩, hM⟩
    · intro a w hI
      obtain ⟨v3270, hS, hM⟩ := hI
      rw [mortiselaw10_ZlibReads.j1] at hM
      refine st1 hS (asg rfl) rfl fun a w hS => ?_
      refine wpList_nil ?_
      refine then_n ?_
      refine wp_ret ?_
      exact s_ret (rs := [4]) hS rfl rfl (hret v3270 w hM (hS.st.pick [] (by kernel_rfl)))

theorem mortiselaw10_ZlibHeads_c {H : Imm} {F : List Frag} {w : World} {R : Ending → World → Prop} {kr : Bool → Prop} {kp : Value → Prop} (hG : Gl H) (K : Nat) (a_3273 : Int) (b_3274 : Int)
    (hS : St w H [] F) (hm : (mortiselaw10_ZlibHeads.m K a_3273 b_3274).wp kr kp)
    (hret : ∀ (x3295 : Bool) (w : World), kr x3295 → St w H [] F → R (.returned (.bool x3295)) w) :
    Calls Tryd.prog 4 ⟨[.int .u8 a_3273, .int .u8 b_3274]⟩ w R := by
  refine enter Tryd.func4 rfl Tryd.ntmps4 rfl hS fun a w hS => ?_
  have hM := hm; clear hm
  rw [mortiselaw10_ZlibHeads.m] at hM
  refine wp_seq ?_
  refine wp_region_list ?_
  refine st1 hS (asg rfl) rfl fun a w hS => ?_
  refine wpList_nil ?_
  refine then_n ?_
  refine wp_seq ?_
  refine wp_region_list ?_
  refine st1 hS (mv rfl) rfl fun a w hS => ?_
  refine st1 hS (mv rfl) rfl fun a w hS => ?_
  refine bsl (g := (ci .u8)) ([a_3273, b_3274] : List Int) [.int .u8 a_3273, .int .u8 b_3274] hS Tryd.runUnderlying27 Tryd.sizeOf5 X.el5 rfl rfl rfl (by simp [Value.cells]) rfl rfl rfl rfl rfl fun w A3275 c3276 f3277 hV3278 hS => ?_
  refine st1 hS (cbs rfl Tryd.runUnderlying27 Tryd.runUnderlying5 Tryd.runUnderlying9 (hV3278.rd (i := 0) rfl)) rfl fun a w hS => ?_
  obtain ⟨hk3279, hM⟩ := wp_chk hM
  refine st1 hS (cat rfl rfl hk3279) rfl fun a w hS => ?_
  refine st1x (v := str) hS (asg rfl) rfl fun s3280 a w hz hS => ?_
  have hM := lt_to hz hM; clear hz
  refine wpList_nil ?_
  refine then_n ?_
  refine wp_seq ?_
  refine wp_region_list ?_
  refine st1 hS (mv rfl) rfl fun a w hS => ?_
  refine s_call hS rfl Tryd.call6 (zlib_Unzip_c hG K s3280 (0 : Int) (hS.st.part 0 [0] (by kernel_rfl)) (wp_bind hM) (fun x3281 x3282 x3283 w hM  hst => s_back hS.ev hst.appF rfl fun hS => ?_))
  replace hS : Ss _ _ _ H [f3277] F _ _ := hS
  refine st1 hS (mv rfl) rfl fun a w hS => ?_
  refine st1 hS (ex rfl rfl) rfl fun a w hS => ?_
  refine st1 hS (ex rfl rfl) rfl fun a w hS => ?_
  refine st1 hS (ex rfl rfl) rfl fun a w hS => ?_
  refine st1 hS (asg rfl) rfl fun a w hS => ?_
  refine st1 hS (asg rfl) rfl fun a w hS => ?_
  refine st1 hS (asg rfl) rfl fun a w hS => ?_
  refine wpList_nil ?_
  refine then_n ?_
  refine wp_seq ?_
  refine wp_region_list ?_
  refine st1 hS (mv rfl) rfl fun a w hS => ?_
  refine st1 hS (bin rfl rfl rfl) rfl fun a w hS => ?_
  refine st1 hS (bin rfl rfl rfl) rfl fun a w hS => ?_
  refine st1 hS (mv rfl) rfl fun a w hS => ?_
  refine g_op 3 true 24 (b := ((iand .u8 a_3273 (15 : Int)) == (8 : Int))) (r := (decide ((ishr .u8 a_3273 (4 : Int)) ≤ (7 : Int)))) hS rfl rfl rfl rfl rfl rfl rfl (fun hb a w hS K hK => ?_) rfl fun a w hS => ?_
  · refine st1g hS rfl rfl rfl hb (mv rfl) rfl fun a w hS => ?_
    refine st1g hS rfl rfl rfl hb (shr rfl rfl rfl) rfl fun a w hS => ?_
    refine st1g hS rfl rfl rfl hb (bin rfl rfl rfl) rfl fun a w hS => ?_
    exact wpList_nil (hK _ _ (hS.up 3 rfl rfl))
  refine st1 hS (mv rfl) rfl fun a w hS => ?_
  refine g_op 8 true 29 (b := (((iand .u8 a_3273 (15 : Int)) == (8 : Int)) && (decide ((ishr .u8 a_3273 (4 : Int)) ≤ (7 : Int))))) (r := ((irem (w64 ((ishl .i64 (wr .i64 a_3273) (8 : Int)) + (wr .i64 b_3274))) (31 : Int)) == (0 : Int))) hS rfl rfl rfl rfl rfl rfl rfl (fun hb a w hS K hK => ?_) rfl fun a w hS => ?_
  · refine st1g hS rfl rfl rfl hb (mv rfl) rfl fun a w hS => ?_
    refine st1g hS rfl rfl rfl hb (cvi rfl Tryd.runUnderlying5 Tryd.runUnderlying3) rfl fun a w hS => ?_
    refine st1g hS rfl rfl rfl hb (shl rfl rfl rfl) rfl fun a w hS => ?_
    refine st1g hS rfl rfl rfl hb (mv rfl) rfl fun a w hS => ?_
    refine st1g hS rfl rfl rfl hb (cvi rfl Tryd.runUnderlying5 Tryd.runUnderlying3) rfl fun a w hS => ?_
    refine st1g hS rfl rfl rfl hb (bin rfl rfl rfl) rfl fun a w hS => ?_
    refine st1g hS rfl rfl rfl hb (rem rfl rfl rfl) rfl fun a w hS => ?_
    refine st1g hS rfl rfl rfl hb (bin rfl rfl rfl) rfl fun a w hS => ?_
    exact wpList_nil (hK _ _ (hS.up 8 rfl rfl))
  refine st1 hS (mv rfl) rfl fun a w hS => ?_
  refine g_op 3 true 39 (b := ((((iand .u8 a_3273 (15 : Int)) == (8 : Int)) && (decide ((ishr .u8 a_3273 (4 : Int)) ≤ (7 : Int)))) && ((irem (w64 ((ishl .i64 (wr .i64 a_3273) (8 : Int)) + (wr .i64 b_3274))) (31 : Int)) == (0 : Int)))) (r := ((iand .u8 b_3274 (32 : Int)) == (0 : Int))) hS rfl rfl rfl rfl rfl rfl rfl (fun hb a w hS K hK => ?_) rfl fun a w hS => ?_
  · refine st1g hS rfl rfl rfl hb (mv rfl) rfl fun a w hS => ?_
    refine st1g hS rfl rfl rfl hb (bin rfl rfl rfl) rfl fun a w hS => ?_
    refine st1g hS rfl rfl rfl hb (bin rfl rfl rfl) rfl fun a w hS => ?_
    exact wpList_nil (hK _ _ (hS.up 3 rfl rfl))
  refine st1x (v := Value.bool) hS (asg rfl) rfl fun right3284 a w hz hS => ?_
  have hM := lt_to hz hM; clear hz
  refine wpList_nil ?_
  refine then_n ?_
  refine wp_seq ?_
  refine wp_region_list ?_
  refine st1 hS (mv rfl) rfl fun a w hS => ?_
  refine st1 hS (bin rfl rfl rfl) rfl fun a w hS => ?_
  refine st1 hS (mv rfl) rfl fun a w hS => ?_
  refine st1 hS (binB rfl rfl Tryd.runUnderlying4 rfl) rfl fun a w hS => ?_
  refine st1 hS (mv rfl) rfl fun a w hS => ?_
  refine seg_cutJ (fun a w => ∃ (v3289 : Bool), Ss 58 [] [(54, .bool v3289)] H [] F a w ∧ (mortiselaw10_ZlibHeads.j2 K v3289).wp kr kp) 6 (fun J3290 hJ3290 => ?_) ?_
  · refine ifB (b := ((x3283 == (0 : Int)) == right3284)) hM (fun hb3285 hM => ?_) (fun hb3285 hM => ?_)
    · replace hS := hS.re 47 (v := .bool true) rfl (congrArg Value.bool hb3285)
      replace hS := hS.re 48 (v := .bool true) rfl (congrArg Value.bool hb3285)
      refine st1g hS rfl rfl rfl rfl (mv rfl) rfl fun a w hS => ?_
      refine st1g hS rfl rfl rfl rfl (mv rfl) rfl fun a w hS => ?_
      refine seg_cutJ (fun a w => ∃ (v3287 : Bool), Ss 58 [] [(48, .bool true), (53, .bool v3287)] H [] F a w ∧ (mortiselaw10_ZlibHeads.j1 K v3287).wp kr kp) 3 (fun J3288 hJ3288 => ?_) ?_
      · refine ifB (b := right3284) hM (fun hb3286 hM => ?_) (fun hb3286 hM => ?_)
        · replace hS := hS.re 9 (v := .bool true) rfl (congrArg Value.bool hb3286)
          replace hS := hS.re 46 (v := .bool true) rfl (congrArg Value.bool hb3286)
          replace hS := hS.re 49 (v := .bool true) rfl (congrArg Value.bool hb3286)
          replace hS := hS.re 50 (v := .bool true) rfl (congrArg Value.bool hb3286)
          refine skips 2 hS rfl fun a w hS => ?_
          refine st1g hS rfl rfl rfl rfl (pk rfl rfl rfl) rfl fun a w hS => ?_
          refine wpList_nil ?_
          refine then_n ?_
          exact hJ3288 _ _ ⟨true, hS.to [] (by kernel_rfl) ⟨rfl, rfl, trivial⟩, hM⟩
        · replace hS := hS.re 9 (v := .bool false) rfl (congrArg Value.bool hb3286)
          replace hS := hS.re 46 (v := .bool false) rfl (congrArg Value.bool hb3286)
          replace hS := hS.re 49 (v := .bool false) rfl (congrArg Value.bool hb3286)
          replace hS := hS.re 50 (v := .bool false) rfl (congrArg Value.bool hb3286)
          refine st1g hS rfl rfl rfl rfl (mv rfl) rfl fun a w hS => ?_
          refine st1g hS rfl rfl rfl rfl (bin rfl rfl rfl) rfl fun a w hS => ?_
          refine st1g hS rfl rfl rfl rfl (pk rfl rfl rfl) rfl fun a w hS => ?_
          refine wpList_nil ?_
          refine then_n ?_
          exact hJ3288 _ _ ⟨(x3283 == (3 : Int)), hS.to [] (by kernel_rfl) ⟨rfl, rfl, trivial⟩, hM⟩
      · intro a w hI
        obtain ⟨v3287, hS, hM⟩ := hI
        rw [mortiselaw10_ZlibHeads.j1] at hM
        refine st1 hS (pk rfl rfl rfl) rfl fun a w hS => ?_
        refine wpList_nil ?_
        refine then_n ?_
        exact hJ3290 _ _ ⟨v3287, hS.to [] (by kernel_rfl) ⟨rfl, trivial⟩, hM⟩
    · replace hS := hS.re 47 (v := .bool false) rfl (congrArg Value.bool hb3285)
      replace hS := hS.re 48 (v := .bool false) rfl (congrArg Value.bool hb3285)
      refine skips 5 hS rfl fun a w hS => ?_
      refine st1 hS (pk rfl rfl rfl) rfl fun a w hS => ?_
      refine wpList_nil ?_
      refine then_n ?_
      exact hJ3290 _ _ ⟨false, hS.to [] (by kernel_rfl) ⟨rfl, trivial⟩, hM⟩
  · intro a w hI
    obtain ⟨v3289, hS, hM⟩ := hI
    rw [mortiselaw10_ZlibHeads.j2] at hM
    refine st1 hS (mv rfl) rfl fun a w hS => ?_
    refine seg_cutJ (fun a w => ∃ (v3293 : Bool), Ss 58 [] [(57, .bool v3293)] H [] F a w ∧ (mortiselaw10_ZlibHeads.j3 K v3293).wp kr kp) 2 (fun J3294 hJ3294 => ?_) ?_
    · refine ifB (b := v3289) hM (fun hb3291 hM => ?_) (fun hb3291 hM => ?_)
      · replace hS := hS.re 54 (v := .bool true) rfl (congrArg Value.bool hb3291)
        replace hS := hS.re 55 (v := .bool true) rfl (congrArg Value.bool hb3291)
        refine unguard hS rfl rfl rfl rfl ?_
        refine s_call hS rfl Tryd.call5 (mortiselaw10_live_c hG K  (hS.st.part 0 [] (by kernel_rfl)) (wp_bind hM) (fun x3292 w hM  hst => s_back hS.ev hst.appF rfl fun hS => ?_))
        replace hS : Ss _ _ _ H [] F _ _ := hS
        refine st1 hS (pk rfl rfl rfl) rfl fun a w hS => ?_
        refine wpList_nil ?_
        refine then_n ?_
        exact hJ3294 _ _ ⟨x3292, hS.to [] (by kernel_rfl) ⟨rfl, trivial⟩, hM⟩
      · replace hS := hS.re 54 (v := .bool false) rfl (congrArg Value.bool hb3291)
        replace hS := hS.re 55 (v := .bool false) rfl (congrArg Value.bool hb3291)
        refine skips 1 hS rfl fun a w hS => ?_
        refine st1 hS (pk rfl rfl rfl) rfl fun a w hS => ?_
        refine wpList_nil ?_
        refine then_n ?_
        exact hJ3294 _ _ ⟨false, hS.to [] (by kernel_rfl) ⟨rfl, trivial⟩, hM⟩
    · intro a w hI
      obtain ⟨v3293, hS, hM⟩ := hI
      rw [mortiselaw10_ZlibHeads.j3] at hM
      refine st1 hS (asg rfl) rfl fun a w hS => ?_
      refine wpList_nil ?_
      refine then_n ?_
      refine wp_ret ?_
      exact s_ret (rs := [4]) hS rfl rfl (hret v3293 w hM (hS.st.pick [] (by kernel_rfl)))
end Go.TrydS
