/- Printed by a program of mine: each Go function answers what its model answers; conditions: what each theorem asks of memory. -/
import Derived.Test.YthoecbfhfglmpaaDoorP1xchchd
set_option linter.unusedVariables false
set_option linter.unusedSimpArgs false
set_option maxRecDepth 100000
namespace Go.TrydS
open Go Go.Sl Go.Mo Go.Proofs
attribute [local irreducible] qA.wp
theorem vC {H : zB} {F : List qj} {w : World} {R : Ending → World → Prop} {kr : ((List UInt8) × Int) → Prop} {kp : Value → Prop} (hG : Gl H) (K : Nat) (JP : qJ) (Kv : Option Addr) (Ky : Nat) (UJ : Option Addr) (UM : Nat) (Bo : yT H [] F qb.cells Kv JP.Segments_) (Gp : JP.Segments_.length ≤ Ky) (Bp : yT H [] F qa.cells UJ JP.Sections_) (Gq : JP.Sections_.length ≤ UM)
    (hS : St w H [] F) (hm : (qY.m K JP).wp kr kp)
    (hret : ∀ (K6 : List UInt8) (K7 : Int) (w : World), kr (K6, K7) → St w H [] F → R (.returned (.tuple ⟨[qr K6, .int .i64 K7]⟩)) w) :
    Calls Tryd.prog 15 ⟨[.agg ⟨[.int .i64 JP.Type_, .int .i64 JP.Machine_, .int .u64 JP.Entry_, .int .i64 JP.Flags_, .slice Kv JP.Segments_.length Ky, .slice UJ JP.Sections_.length UM]⟩]⟩ w R := by
 refine enter Tryd.func15 rfl Tryd.ntmps15 rfl hS fun a w hS => ?_
 have hM := hm; clear hm
 rw [qY.m] at hM
 refine qn <| bx ([.int .i64 JP.Type_, .int .i64 JP.Machine_, .int .u64 JP.Entry_, .int .i64 JP.Flags_, .slice Kv JP.Segments_.length Ky, .slice UJ JP.Sections_.length UM]) hS rfl rfl rfl fun w Un Vc VJ hS => sA hS rfl fun hS => sA hS rfl fun hS => qs <| wp_seq <| qn <| sO hS (xR 0 rfl VJ rfl ([.int .i64 JP.Type_, .int .i64 JP.Machine_, .int .u64 JP.Entry_, .int .i64 JP.Flags_, .slice Kv JP.Segments_.length Ky, .slice UJ JP.Sections_.length UM]) rfl rfl Tryd.isAgg27 Tryd.sizeOf27) rfl fun hS => ql hS rfl Tryd.call33 (Qw hG K JP Kv Ky UJ UM (Bo.app _) Gp (Bp.app _) Gq (hS.st.part 0 [0] (by kernel_rfl)) (qf hM) (fun GA w hM  hst => qk hS.ev hst.appF rfl fun hS => ?_))
 replace hS : Ss _ _ _ H [Vc] F _ _ := hS
 refine sO hS (un rfl rfl) rfl fun hS => qs <| qI hS rfl hM (fun DW hM => ?_) (fun DW hM => ?_)
 ·refine wp_seq ?_
  refine zI <| sA hS rfl fun hS => sA hS rfl fun hS => qs <| wp_ret <| qx ?_
  exact qT (rs := [2, 3]) hS rfl rfl (hret ([] : List UInt8) (1 : Int) _ (qC hM) (hS.st.pick [] (by kernel_rfl)))
 ·refine wp_skip ?_
  refine qi <| qn <| sO hS (jW ([.pointer none, .slice none 0 0, .pointer none, .slice none 0 0, .pointer none, .slice none 0 0]) [(0, 2), (2, 2), (4, 2)] Tryd.zeroValue85 Tryd.runUnderlying85 (by intro w; simp [Tryd.sizeOf81, Tryd.sizeOf83]) rfl rfl) rfl fun hS => bx ([.pointer none, .slice none 0 0, .pointer none, .slice none 0 0, .pointer none, .slice none 0 0]) hS rfl rfl rfl fun w JN Ga DQ hS => ?_
  obtain ⟨Gb, DV, hS⟩ := hS.nilV 5 (ci .u8) 1
  obtain ⟨VI, UC, hS⟩ := hS.nilV 5 (ci .u8) 1
  obtain ⟨Ue, UV, hS⟩ := hS.nilV 5 (ci .u8) 1
  refine sA hS rfl fun hS => qs <| qn <| sA hS rfl fun hS => qs <| zq (fun a w => ∃ (Ud : Option Addr) (UH : Option Addr) (UI : Nat) (Vb : (List Int)) (VV : qj) (Kp : qj) (JR : Int), Ss 170 [] [(1, qp Un 0), (4, qp JN 0), (5, .int .i64 JR)] H [Vc, Kp, VV, VI, Ue] F a w ∧ (Ud = none ∨ Ud = some ⟨JN, 0, none⟩) ∧ (zp 5 (ci .u8) 1 UH Vb UI VV) ∧ (zH Kp JN ([.pointer Ud, .slice UH Vb.length UI, .pointer none, .slice none ([] : List Int).length (0), .pointer none, .slice none ([] : List Int).length (0)]) 85) ∧ (qY.j2 K JP Vb JR).wp kr kp) (fun Gy DU => ?_) ?_
  ·refine wp_seq ?_
   refine zI <| sO hS (qU rfl Tryd.runUnderlying27 rfl Tryd.sizeOf24 rfl) rfl fun hS => sO hS (zD 4 rfl VJ rfl rfl Tryd.isAgg24) rfl fun hS => sO hS (xz rfl Tryd.runUnderlying24) rfl fun hS => sM hS rfl fun hS => qs <| yp <| zz (fun DY a w => ∃ (UG : Option Addr) (UK : Option Addr) (UN : Nat) (Vl : (List Int)) (UO : qj) (UP : qj) (Vj : Int) (JQ : Int), Ss 170 [] [(1, qp Un 0), (4, qp JN 0), (5, .int .i64 Vj), (21, .slice Kv JP.Segments_.length Ky), (22, .int .i64 (JP.Segments_.length : Int)), (23, .int .i64 JQ)] H [Vc, UP, UO, VI, Ue] F a w ∧ (UG = none ∨ UG = some ⟨JN, 0, none⟩) ∧ (zp 5 (ci .u8) 1 UK Vl UN UO) ∧ (zH UP JN ([.pointer UG, .slice UK Vl.length UN, .pointer none, .slice none ([] : List Int).length (0), .pointer none, .slice none ([] : List Int).length (0)]) 85) ∧ (qY.l1 K JP DY Vl Vj JQ).wp kr kp) K ?_ ?_ ?_
   ·exact ⟨none, none, 0, ([] : List Int), Gb, Ga, (0 : Int), (0 : Int), hS.to [4, 3, 2, 1, 0] (by kernel_rfl) ⟨rfl, rfl, rfl, rfl, rfl, rfl, trivial⟩, (.inl rfl), DV, DQ, hM⟩
   ·intro a w hI; obtain ⟨_, _, _, _, _, _, _, _, _, _, _, _, hM⟩ := hI; exact zA hM
   ·intro DY a w hI Gx DT
    obtain ⟨UG, UK, UN, Vl, UO, UP, Vj, JQ, hS, K0, K2, K1, hM⟩ := hI
    rw [qY.l1] at hM
    refine qn <| sB hS rfl fun hS => qs <| wp_seq <| qI hS rfl hM (fun DX hM => ?_) (fun DX hM => ?_)
    ·refine wp_skip ?_
     refine qi <| wp_seq <| yp <| wp_seq <| zI ?_
     obtain ⟨K5, hM⟩ := qL hM
     refine sO hS (vS rfl rfl Tryd.runUnderlying24 Tryd.sizeOf58 Bo.wk (fun _ => rfl) rfl K5) rfl fun hS => sO hS (uQ rfl Bo.wk (fun _ => rfl) K5 Tryd.isAgg58 Tryd.sizeOf58 rfl) rfl fun hS => jY ([.int .i64 (0 : Int), .int .i64 (0 : Int), .int .i64 (0 : Int), .int .u64 (0 : Int), .int .u64 (0 : Int), .int .i64 (0 : Int), .int .u64 (0 : Int), .int .u64 (0 : Int)]) hS Tryd.zeroValue58 rfl rfl fun w JW Gz DR hS => jr 0 ([.int .i64 ((rd JP.Segments_ JQ).Type_), .int .i64 ((rd JP.Segments_ JQ).Flags_), .int .i64 ((rd JP.Segments_ JQ).Offset_), .int .u64 ((rd JP.Segments_ JQ).Vaddr_), .int .u64 ((rd JP.Segments_ JQ).Paddr_), .int .i64 ((rd JP.Segments_ JQ).Filesz_), .int .u64 ((rd JP.Segments_ JQ).Memsz_), .int .u64 ((rd JP.Segments_ JQ).Align_)]) ([.int .i64 ((rd JP.Segments_ JQ).Type_), .int .i64 ((rd JP.Segments_ JQ).Flags_), .int .i64 ((rd JP.Segments_ JQ).Offset_), .int .u64 ((rd JP.Segments_ JQ).Vaddr_), .int .u64 ((rd JP.Segments_ JQ).Paddr_), .int .i64 ((rd JP.Segments_ JQ).Filesz_), .int .u64 ((rd JP.Segments_ JQ).Memsz_), .int .u64 ((rd JP.Segments_ JQ).Align_)]) hS rfl rfl DR rfl rfl Tryd.sizeOf58 (by simp [Value.oneCell']) (Nat.le_of_ble_eq_true rfl) rfl fun w B9 Vx hS => qs <| qn <| sA hS rfl fun hS => qs <| wp_seq <| qR (vals := [some (qp JN 0), some (qp JN 0), some (qp JN 0), some (qp JW 0), some (.int .i64 ((rd JP.Segments_ JQ).Type_)), some (qp JW 1), some (.int .i64 ((rd JP.Segments_ JQ).Flags_)), none, none]) hS xe rfl ?_
     intro l w ho hcl hA hst
     refine yA hA hst ho hcl zU xf 7 [0, 1, 2, 3, 4, 5, 6] rfl rfl rfl rfl rfl (by exact ⟨nM rfl, nQ rfl (by exact qH (xm rfl) rfl), nQ rfl (by exact qH (qU rfl Tryd.runUnderlying85 rfl Tryd.sizeOf83 rfl) rfl), nQ rfl (by exact qH (qU rfl Tryd.runUnderlying58 rfl Tryd.sizeOf3 rfl) rfl), nQ rfl (by exact qH (zD 0 rfl Vx rfl rfl Tryd.isAgg3) rfl), nQ rfl (by exact qH (qU rfl Tryd.runUnderlying58 rfl Tryd.sizeOf3 rfl) rfl), nQ rfl (by exact qH (zD 0 rfl Vx rfl rfl Tryd.isAgg3) rfl), trivial⟩) fun D l a w ho hcl hav hpre hm hE hk hA hst => ?_
     have hS := (Ss.mk hE hst).env2 (e' := [(31, .int .i64 ((rd JP.Segments_ JQ).Type_)), (33, .int .i64 ((rd JP.Segments_ JQ).Flags_))]) ⟨rfl, rfl, trivial⟩
     refine qy rfl <| vQ (g := (ci .i64)) ([(rd JP.Segments_ JQ).Type_, (rd JP.Segments_ JQ).Flags_] : List Int) [.int .i64 ((rd JP.Segments_ JQ).Type_), .int .i64 ((rd JP.Segments_ JQ).Flags_)] hS Tryd.runUnderlying65 Tryd.sizeOf3 X.el3 rfl rfl rfl (by simp [Value.cells]) rfl rfl rfl rfl rfl fun w Kb Kn Da K3 hS => qs ?_
     replace hst := hS.st
     obtain ⟨hcl, hmust, hav2, hA⟩ := dn (vals' := [some (qp JN 0), some (qp JN 0), some (qp JN 0), some (qp JW 0), some (.int .i64 ((rd JP.Segments_ JQ).Type_)), some (qp JW 1), some (.int .i64 ((rd JP.Segments_ JQ).Flags_)), some (.slice Kb ([(rd JP.Segments_ JQ).Type_, (rd JP.Segments_ JQ).Flags_] : List Int).length Kn), none]) 7 [(4, 7), (6, 7), (3, 4), (5, 6)] hA hcl hav hm hpre hk rfl rfl rfl rfl rfl rfl rfl
     clear hm hav
     refine yA hA hst ho hcl hav2 hmust 8 [0, 1, 2] rfl rfl rfl rfl rfl (by exact ⟨nM rfl, nQ rfl (by exact qH (xm rfl) rfl), nQ rfl (by exact qH (qU rfl Tryd.runUnderlying85 rfl Tryd.sizeOf83 rfl) rfl), trivial⟩) fun D l a w ho hcl hav hpre hm hE hk hA hst => ?_
     have hS := (Ss.mk hE hst).env2 (e' := [(29, qp JN 0), (34, .slice Kb ([(rd JP.Segments_ JQ).Type_, (rd JP.Segments_ JQ).Flags_] : List Int).length Kn)]) ⟨rfl, rfl, trivial⟩
     refine qy rfl <| ql hS rfl Tryd.call34 (y5 hG K (qg.mk (qc.mk Vl) (qc.mk ([] : List Int)) ([] : List Int)) ([(rd JP.Segments_ JQ).Type_, (rd JP.Segments_ JQ).Flags_] : List Int) JN UP UG UK UN UO none none (0) VI none none (0) Ue Kb Kn K1 K0 K2 (.inl rfl) UC (.inl rfl) UV (K3.rdF (i := 0) rfl) (K3.cap (fun _ => rfl) rfl) (hS.st.part 4 [3, 4, 5, 6, 0, 1, 2] (by kernel_rfl)) (qf hM) (fun D1 D2 D7 K8 Db Dc w hM Gd Ge Gf hst => qk hS.ev hst.appF rfl fun hS => ?_))
     replace hS : Ss _ _ _ H [Dc, Db, VI, Ue, Da, B9, Vc] F _ _ := hS
     refine qs ?_
     replace hst := hS.st
     obtain ⟨hcl, hmust, hav2, hA⟩ := dn (vals' := [some (qp JN 0), some (qp JN 0), some (qp JN 0), some (qp JW 0), some (.int .i64 ((rd JP.Segments_ JQ).Type_)), some (qp JW 1), some (.int .i64 ((rd JP.Segments_ JQ).Flags_)), some (.slice Kb ([(rd JP.Segments_ JQ).Type_, (rd JP.Segments_ JQ).Flags_] : List Int).length Kn), some (.tuple ⟨[]⟩)]) 8 [(2, 8), (7, 8), (1, 2), (4, 7), (6, 7), (0, 1), (3, 4), (5, 6)] hA hcl hav hm hpre hk rfl rfl rfl rfl rfl rfl rfl
     clear hm hav
     refine xL hA hst ho hcl hmust [] rfl rfl rfl trivial fun a w hS => ?_
     replace hS := hS.env2 (e' := [(1, qp Un 0), (4, qp JN 0), (5, .int .i64 (64 : Int)), (7, qp JW 0), (21, .slice Kv JP.Segments_.length Ky), (22, .int .i64 (JP.Segments_.length : Int)), (23, .int .i64 JQ)]) ⟨rfl, rfl, rfl, rfl, rfl, rfl, rfl, trivial⟩
     refine qi <| qR (vals := [some (qp JN 0), some (qp JN 0), some (qp JN 0), some (qp JW 2), some (.int .i64 ((rd JP.Segments_ JQ).Offset_)), some (.int .u64 (wr .u64 (rd JP.Segments_ JQ).Offset_)), some (qp JW 3), some (.int .u64 ((rd JP.Segments_ JQ).Vaddr_)), some (qp JW 4), some (.int .u64 ((rd JP.Segments_ JQ).Paddr_)), some (qp JW 5), some (.int .i64 ((rd JP.Segments_ JQ).Filesz_)), some (.int .u64 (wr .u64 (rd JP.Segments_ JQ).Filesz_)), some (qp JW 6), some (.int .u64 ((rd JP.Segments_ JQ).Memsz_)), some (qp JW 7), some (.int .u64 ((rd JP.Segments_ JQ).Align_)), none, none]) hS xe rfl ?_
     intro l w ho hcl hA hst
     refine yA hA hst ho hcl zU xf 17 [0, 1, 2, 3, 4, 5, 6, 7, 8, 9, 10, 11, 12, 13, 14, 15, 16] rfl rfl rfl rfl rfl (by exact ⟨nM rfl, nQ rfl (by exact qH (xm rfl) rfl), nQ rfl (by exact qH (qU rfl Tryd.runUnderlying85 rfl Tryd.sizeOf83 rfl) rfl), nQ rfl (by exact qH (qU rfl Tryd.runUnderlying58 rfl Tryd.sizeOf3 rfl) rfl), nQ rfl (by exact qH (zD 5 rfl Vx rfl rfl Tryd.isAgg3) rfl), nQ rfl (by exact qH (yM rfl Tryd.runUnderlying3 Tryd.runUnderlying23) rfl), nQ rfl (by exact qH (qU rfl Tryd.runUnderlying58 rfl Tryd.sizeOf23 rfl) rfl), nQ rfl (by exact qH (zD 5 rfl Vx rfl rfl Tryd.isAgg23) rfl), nQ rfl (by exact qH (qU rfl Tryd.runUnderlying58 rfl Tryd.sizeOf23 rfl) rfl), nQ rfl (by exact qH (zD 5 rfl Vx rfl rfl Tryd.isAgg23) rfl), nQ rfl (by exact qH (qU rfl Tryd.runUnderlying58 rfl Tryd.sizeOf3 rfl) rfl), nQ rfl (by exact qH (zD 5 rfl Vx rfl rfl Tryd.isAgg3) rfl), nQ rfl (by exact qH (yM rfl Tryd.runUnderlying3 Tryd.runUnderlying23) rfl), nQ rfl (by exact qH (qU rfl Tryd.runUnderlying58 rfl Tryd.sizeOf23 rfl) rfl), nQ rfl (by exact qH (zD 5 rfl Vx rfl rfl Tryd.isAgg23) rfl), nQ rfl (by exact qH (qU rfl Tryd.runUnderlying58 rfl Tryd.sizeOf23 rfl) rfl), nQ rfl (by exact qH (zD 5 rfl Vx rfl rfl Tryd.isAgg23) rfl), trivial⟩) fun D l a w ho hcl hav hpre hm hE hk hA hst => ?_
     have hS := (Ss.mk hE hst).env2 (e' := [(41, .int .u64 (wr .u64 (rd JP.Segments_ JQ).Offset_)), (43, .int .u64 ((rd JP.Segments_ JQ).Vaddr_)), (45, .int .u64 ((rd JP.Segments_ JQ).Paddr_)), (48, .int .u64 (wr .u64 (rd JP.Segments_ JQ).Filesz_)), (50, .int .u64 ((rd JP.Segments_ JQ).Memsz_)), (52, .int .u64 ((rd JP.Segments_ JQ).Align_))]) ⟨rfl, rfl, rfl, rfl, rfl, rfl, trivial⟩
     refine qy rfl <| vQ (g := (ci .u64)) ([(wr .u64 (rd JP.Segments_ JQ).Offset_), (rd JP.Segments_ JQ).Vaddr_, (rd JP.Segments_ JQ).Paddr_, (wr .u64 (rd JP.Segments_ JQ).Filesz_), (rd JP.Segments_ JQ).Memsz_, (rd JP.Segments_ JQ).Align_] : List Int) [.int .u64 (wr .u64 (rd JP.Segments_ JQ).Offset_), .int .u64 ((rd JP.Segments_ JQ).Vaddr_), .int .u64 ((rd JP.Segments_ JQ).Paddr_), .int .u64 (wr .u64 (rd JP.Segments_ JQ).Filesz_), .int .u64 ((rd JP.Segments_ JQ).Memsz_), .int .u64 ((rd JP.Segments_ JQ).Align_)] hS Tryd.runUnderlying73 Tryd.sizeOf23 X.el23 rfl rfl rfl (by simp [Value.cells]) rfl rfl rfl rfl rfl fun w Kc Ko Gc K4 hS => qs ?_
     replace hst := hS.st
     obtain ⟨hcl, hmust, hav2, hA⟩ := dn (vals' := [some (qp JN 0), some (qp JN 0), some (qp JN 0), some (qp JW 2), some (.int .i64 ((rd JP.Segments_ JQ).Offset_)), some (.int .u64 (wr .u64 (rd JP.Segments_ JQ).Offset_)), some (qp JW 3), some (.int .u64 ((rd JP.Segments_ JQ).Vaddr_)), some (qp JW 4), some (.int .u64 ((rd JP.Segments_ JQ).Paddr_)), some (qp JW 5), some (.int .i64 ((rd JP.Segments_ JQ).Filesz_)), some (.int .u64 (wr .u64 (rd JP.Segments_ JQ).Filesz_)), some (qp JW 6), some (.int .u64 ((rd JP.Segments_ JQ).Memsz_)), some (qp JW 7), some (.int .u64 ((rd JP.Segments_ JQ).Align_)), some (.slice Kc ([(wr .u64 (rd JP.Segments_ JQ).Offset_), (rd JP.Segments_ JQ).Vaddr_, (rd JP.Segments_ JQ).Paddr_, (wr .u64 (rd JP.Segments_ JQ).Filesz_), (rd JP.Segments_ JQ).Memsz_, (rd JP.Segments_ JQ).Align_] : List Int).length Ko), none]) 17 [(5, 17), (7, 17), (9, 17), (12, 17), (14, 17), (16, 17), (4, 5), (6, 7), (8, 9), (11, 12), (13, 14), (15, 16), (3, 4), (10, 11)] hA hcl hav hm hpre hk rfl rfl rfl rfl rfl rfl rfl
     clear hm hav
     refine yA hA hst ho hcl hav2 hmust 18 [0, 1, 2] rfl rfl rfl rfl rfl (by exact ⟨nM rfl, nQ rfl (by exact qH (xm rfl) rfl), nQ rfl (by exact qH (qU rfl Tryd.runUnderlying85 rfl Tryd.sizeOf83 rfl) rfl), trivial⟩) fun D l a w ho hcl hav hpre hm hE hk hA hst => ?_
     have hS := (Ss.mk hE hst).env2 (e' := [(38, qp JN 0), (53, .slice Kc ([(wr .u64 (rd JP.Segments_ JQ).Offset_), (rd JP.Segments_ JQ).Vaddr_, (rd JP.Segments_ JQ).Paddr_, (wr .u64 (rd JP.Segments_ JQ).Filesz_), (rd JP.Segments_ JQ).Memsz_, (rd JP.Segments_ JQ).Align_] : List Int).length Ko)]) ⟨rfl, rfl, trivial⟩
     refine qy rfl <| ql hS rfl Tryd.call35 (y6 hG K (qg.mk (qc.mk K8) (qc.mk ([] : List Int)) ([] : List Int)) ([(wr .u64 (rd JP.Segments_ JQ).Offset_), (rd JP.Segments_ JQ).Vaddr_, (rd JP.Segments_ JQ).Paddr_, (wr .u64 (rd JP.Segments_ JQ).Filesz_), (rd JP.Segments_ JQ).Memsz_, (rd JP.Segments_ JQ).Align_] : List Int) JN Dc D1 D2 D7 Db none none (0) VI none none (0) Ue Kc Ko Gf Gd Ge (.inl rfl) UC (.inl rfl) UV (K4.rdF (i := 0) rfl) (K4.cap (fun _ => rfl) rfl) (hS.st.part 4 [1, 2, 3, 4, 0, 5, 6, 7] (by kernel_rfl)) (qf hM) (fun D3 D4 D8 K9 Dd De w hM Gg Gh Gi hst => qk hS.ev hst.appF rfl fun hS => ?_))
     replace hS : Ss _ _ _ H [De, Dd, VI, Ue, Gc, Da, B9, Vc] F _ _ := hS
     refine qs ?_
     replace hst := hS.st
     obtain ⟨hcl, hmust, hav2, hA⟩ := dn (vals' := [some (qp JN 0), some (qp JN 0), some (qp JN 0), some (qp JW 2), some (.int .i64 ((rd JP.Segments_ JQ).Offset_)), some (.int .u64 (wr .u64 (rd JP.Segments_ JQ).Offset_)), some (qp JW 3), some (.int .u64 ((rd JP.Segments_ JQ).Vaddr_)), some (qp JW 4), some (.int .u64 ((rd JP.Segments_ JQ).Paddr_)), some (qp JW 5), some (.int .i64 ((rd JP.Segments_ JQ).Filesz_)), some (.int .u64 (wr .u64 (rd JP.Segments_ JQ).Filesz_)), some (qp JW 6), some (.int .u64 ((rd JP.Segments_ JQ).Memsz_)), some (qp JW 7), some (.int .u64 ((rd JP.Segments_ JQ).Align_)), some (.slice Kc ([(wr .u64 (rd JP.Segments_ JQ).Offset_), (rd JP.Segments_ JQ).Vaddr_, (rd JP.Segments_ JQ).Paddr_, (wr .u64 (rd JP.Segments_ JQ).Filesz_), (rd JP.Segments_ JQ).Memsz_, (rd JP.Segments_ JQ).Align_] : List Int).length Ko), some (.tuple ⟨[]⟩)]) 18 [(2, 18), (17, 18), (1, 2), (5, 17), (7, 17), (9, 17), (12, 17), (14, 17), (16, 17), (0, 1), (4, 5), (6, 7), (8, 9), (11, 12), (13, 14), (15, 16), (3, 4), (10, 11)] hA hcl hav hm hpre hk rfl rfl rfl rfl rfl rfl rfl
     clear hm hav
     refine xL hA hst ho hcl hmust [] rfl rfl rfl trivial fun a w hS => ?_
     replace hS := hS.env2 (e' := [(1, qp Un 0), (4, qp JN 0), (5, .int .i64 (64 : Int)), (21, .slice Kv JP.Segments_.length Ky), (22, .int .i64 (JP.Segments_.length : Int)), (23, .int .i64 JQ)]) ⟨rfl, rfl, rfl, rfl, rfl, rfl, trivial⟩
     refine xr (qi ?_)
     refine zI <| sB hS rfl fun hS => sM hS rfl fun hS => qN <| qi ?_
     exact DT _ _ ⟨D3, D4, D8, K9, Dd, De, (64 : Int), (qM (JQ + (1 : Int))), hS.to [7, 0, 1, 2, 3] (by kernel_rfl) ⟨rfl, rfl, rfl, rfl, rfl, rfl, trivial⟩, Gg, Gh, Gi, hM⟩
    ·refine wp_exit ?_
     refine qK (qK (zi (qi ?_)))
     exact DU _ _ ⟨UG, UK, UN, Vl, UO, UP, Vj, hS.to [0, 1, 2, 3, 4] (by kernel_rfl) ⟨rfl, rfl, rfl, trivial⟩, K0, K2, K1, hM⟩
  ·intro a w hI
   obtain ⟨Ud, UH, UI, Vb, VV, Kp, JR, hS, US, U1, DS, hM⟩ := hI
   rw [qY.j2] at hM
   refine qn <| sM hS rfl fun hS => ql hS rfl Tryd.call36 (yL hG K (qg.mk (qc.mk Vb) (qc.mk ([] : List Int)) ([] : List Int)) ([] : List UInt8) JN Kp Ud UH UI VV none none (0) VI none none (0) Ue DS US U1 (.inl rfl) UC (.inl rfl) UV (hS.st.part 4 [1, 2, 3, 4, 0] (by kernel_rfl)) (qf hM) (fun GB BP BQ B6 UL UQ Bb w hM DO DP Gj hst => qk hS.ev hst.appF rfl fun hS => ?_))
   replace hS : Ss _ _ _ H [Bb, VV, VI, UQ, Vc] F _ _ := hS
   refine qs <| wp_seq <| qR (vals := [some (qp JN 0), some (qp JN 0), some (qp JN 2), some (qp JN 2), none, none]) hS xe rfl ?_
   intro l w ho hcl hA hst
   refine yA hA hst ho hcl zU xf 4 [0, 1, 2, 3] rfl rfl rfl rfl rfl (by exact ⟨nM rfl, nQ rfl (by exact qH (xm rfl) rfl), nQ rfl (by exact qH (qU rfl Tryd.runUnderlying85 rfl Tryd.sizeOf83 rfl) rfl), nQ rfl (by exact qH (qU rfl Tryd.runUnderlying83 rfl Tryd.sizeOf81 rfl) rfl), trivial⟩) fun D l a w ho hcl hav hpre hm hE hk hA hst => ?_
   have hS := (Ss.mk hE hst).env2 (e' := []) trivial
   refine qy rfl <| ql hS rfl Tryd.call38 (vB hG K ([0] : List UInt8) (64 : Int) (hS.st.part 0 [0, 1, 2, 3, 4] (by kernel_rfl)) (qf hM) (fun Kq w hM  hst => qk hS.ev hst.appF rfl fun hS => ?_))
   replace hS : Ss _ _ _ H [Bb, VV, VI, UQ, Vc] F _ _ := hS
   refine qs ?_
   replace hst := hS.st
   obtain ⟨hcl, hmust, hav2, hA⟩ := dn (vals' := [some (qp JN 0), some (qp JN 0), some (qp JN 2), some (qp JN 2), some (qr Kq), none]) 4 [] hA hcl hav hm hpre hk rfl rfl rfl rfl rfl rfl rfl
   clear hm hav
   refine yA hA hst ho hcl hav2 hmust 5 [0, 1, 2, 3] rfl rfl rfl rfl rfl (by exact ⟨nM rfl, nQ rfl (by exact qH (xm rfl) rfl), nQ rfl (by exact qH (qU rfl Tryd.runUnderlying85 rfl Tryd.sizeOf83 rfl) rfl), nQ rfl (by exact qH (qU rfl Tryd.runUnderlying83 rfl Tryd.sizeOf81 rfl) rfl), trivial⟩) fun D l a w ho hcl hav hpre hm hE hk hA hst => ?_
   have hS := (Ss.mk hE hst).env2 (e' := [(61, qp JN 2), (62, qr Kq)]) ⟨rfl, rfl, trivial⟩
   refine qy rfl <| ql hS rfl Tryd.call37 (xi hG K (qg.mk (qc.mk Vb) (qc.mk ([] : List Int)) UL) Kq JN Bb Ud UH UI VV none none (0) VI BP BQ B6 UQ Gj US U1 (.inl rfl) UC DO DP (hS.st.part 4 [0, 1, 2, 3, 4] (by kernel_rfl)) (qf hM) (fun Gr D5 D6 D9 Ba Df Dg w hM Gk Gm Gn hst => qk hS.ev hst.appF rfl fun hS => ?_))
   replace hS : Ss _ _ _ H [Dg, VV, Df, UQ, Vc] F _ _ := hS
   refine qs ?_
   replace hst := hS.st
   obtain ⟨hcl, hmust, hav2, hA⟩ := dn (vals' := [some (qp JN 0), some (qp JN 0), some (qp JN 2), some (qp JN 2), some (qr Kq), some (.tuple ⟨[.int .i64 Gr, .nilIface]⟩)]) 5 [(3, 5), (4, 5), (2, 3), (1, 2), (0, 1)] hA hcl hav hm hpre hk rfl rfl rfl rfl rfl rfl rfl
   clear hm hav
   refine xL hA hst ho hcl hmust [] rfl rfl rfl trivial fun a w hS => ?_
   replace hS := hS.env2 (e' := [(1, qp Un 0), (4, qp JN 0), (5, .int .i64 JR)]) ⟨rfl, rfl, rfl, trivial⟩
   refine qi <| zq (fun a w => ∃ (VM : Option Addr) (V0 : Option Addr) (V4 : Nat) (J7 : (List Int)) (VR : qj) (Vn : Option Addr) (VB : Option Addr) (VC : Nat) (JY : (List Int)) (Va : qj) (V1 : Option Addr) (Uk : Option Addr) (Uq : Nat) (Vf : (List Int)) (Uu : qj) (Uv : qj), Ss 170 [] [(1, qp Un 0), (4, qp JN 0), (5, .int .i64 JR)] H [Vc, Uv, VR, Va, Uu] F a w ∧ (VM = none ∨ VM = some ⟨JN, 0, none⟩) ∧ (zp 5 (ci .u8) 1 V0 J7 V4 VR) ∧ (Vn = none ∨ Vn = some ⟨JN, 2, none⟩) ∧ (zp 5 (ci .u8) 1 VB JY VC Va) ∧ (V1 = none ∨ V1 = some ⟨JN, 4, none⟩) ∧ (zp 5 (ci .u8) 1 Uk Vf Uq Uu) ∧ (zH Uv JN ([.pointer VM, .slice V0 J7.length V4, .pointer Vn, .slice VB JY.length VC, .pointer V1, .slice Uk Vf.length Uq]) 85) ∧ (qY.j5 K JP JR J7 JY Vf).wp kr kp) (fun Gu Bi => ?_) ?_
   ·refine wp_seq ?_
    refine zI <| sO hS (qU rfl Tryd.runUnderlying27 rfl Tryd.sizeOf25 rfl) rfl fun hS => sO hS (zD 4 rfl VJ rfl rfl Tryd.isAgg25) rfl fun hS => sO hS (xz rfl Tryd.runUnderlying25) rfl fun hS => sM hS rfl fun hS => qs <| yp <| zz (fun U7 a w => ∃ (Vz : Option Addr) (VK : Option Addr) (VN : Nat) (J0 : (List Int)) (VP : qj) (J8 : Option Addr) (Vd : Option Addr) (Vh : Nat) (JS : (List Int)) (J4 : qj) (Ve : Option Addr) (Vm : Option Addr) (Vq : Nat) (JT : (List Int)) (J9 : qj) (VQ : qj) (JO : Int), Ss 170 [] [(1, qp Un 0), (4, qp JN 0), (5, .int .i64 JR), (65, .slice UJ JP.Sections_.length UM), (66, .int .i64 (JP.Sections_.length : Int)), (67, .int .i64 JO)] H [Vc, VQ, VP, J4, J9] F a w ∧ (Vz = none ∨ Vz = some ⟨JN, 0, none⟩) ∧ (zp 5 (ci .u8) 1 VK J0 VN VP) ∧ (J8 = none ∨ J8 = some ⟨JN, 2, none⟩) ∧ (zp 5 (ci .u8) 1 Vd JS Vh J4) ∧ (Ve = none ∨ Ve = some ⟨JN, 4, none⟩) ∧ (zp 5 (ci .u8) 1 Vm JT Vq J9) ∧ (zH VQ JN ([.pointer Vz, .slice VK J0.length VN, .pointer J8, .slice Vd JS.length Vh, .pointer Ve, .slice Vm JT.length Vq]) 85) ∧ (qY.l3 K JP JR U7 J0 JS JT JO).wp kr kp) K ?_ ?_ ?_
    ·exact ⟨Ud, UH, UI, Vb, VV, D5, D6, D9, Ba, Df, BP, BQ, B6, UL, UQ, Dg, (0 : Int), hS.to [4, 0, 1, 2, 3] (by kernel_rfl) ⟨rfl, rfl, rfl, rfl, rfl, rfl, trivial⟩, US, U1, Gk, Gm, DO, DP, Gn, hM⟩
    ·intro a w hI; obtain ⟨_, _, _, _, _, _, _, _, _, _, _, _, _, _, _, _, _, _, _, _, _, _, _, _, _, hM⟩ := hI; exact zA hM
    ·intro U7 a w hI Gt Bh
     obtain ⟨Vz, VK, VN, J0, VP, J8, Vd, Vh, JS, J4, Ve, Vm, Vq, JT, J9, VQ, JO, hS, Uf, Ui, VE, VF, VW, VY, Uh, hM⟩ := hI
     rw [qY.l3] at hM
     refine qn <| sB hS rfl fun hS => qs <| wp_seq <| qI hS rfl hM (fun Bl hM => ?_) (fun Bl hM => ?_)
     ·refine wp_skip ?_
      refine qi <| wp_seq <| yp <| wp_seq <| zI ?_
      obtain ⟨U2, hM⟩ := qL hM
      refine sO hS (vS rfl rfl Tryd.runUnderlying25 Tryd.sizeOf43 Bp.wk (fun _ => rfl) rfl U2) rfl fun hS => sO hS (uQ rfl Bp.wk (fun _ => rfl) U2 Tryd.isAgg43 Tryd.sizeOf43 rfl) rfl fun hS => jY ([qr ([] : List UInt8), .int .i64 (0 : Int), .int .u64 (0 : Int), .int .u64 (0 : Int), qr ([] : List UInt8), .int .i64 (0 : Int), .int .i64 (0 : Int), .int .i64 (0 : Int), .int .u64 (0 : Int), .int .u64 (0 : Int)]) hS Tryd.zeroValue43 rfl rfl fun w J2 Gv Bd hS => jr 0 ([qr ((rd JP.Sections_ JO).Name_), .int .i64 ((rd JP.Sections_ JO).Type_), .int .u64 ((rd JP.Sections_ JO).Flags_), .int .u64 ((rd JP.Sections_ JO).Addr_), qr ((rd JP.Sections_ JO).Data_), .int .i64 ((rd JP.Sections_ JO).Size_), .int .i64 ((rd JP.Sections_ JO).Link_), .int .i64 ((rd JP.Sections_ JO).Info_), .int .u64 ((rd JP.Sections_ JO).Align_), .int .u64 ((rd JP.Sections_ JO).Each_)]) ([qr ((rd JP.Sections_ JO).Name_), .int .i64 ((rd JP.Sections_ JO).Type_), .int .u64 ((rd JP.Sections_ JO).Flags_), .int .u64 ((rd JP.Sections_ JO).Addr_), qr ((rd JP.Sections_ JO).Data_), .int .i64 ((rd JP.Sections_ JO).Size_), .int .i64 ((rd JP.Sections_ JO).Link_), .int .i64 ((rd JP.Sections_ JO).Info_), .int .u64 ((rd JP.Sections_ JO).Align_), .int .u64 ((rd JP.Sections_ JO).Each_)]) hS rfl rfl Bd rfl rfl Tryd.sizeOf43 (by simp [Value.oneCell']) (Nat.le_of_ble_eq_true rfl) rfl fun w V6 J6 hS => qs <| wp_seq ?_
      obtain ⟨VG, U4⟩ : ∃ x, x = (rd JP.Sections_ JO).Size_ := ⟨_, rfl⟩
      replace hM := qO U4 hM
      refine qR (vals := [some (qp J2 5), some (.int .i64 ((rd JP.Sections_ JO).Size_)), some (.int .i64 (0 : Int)), some (.int .i64 VG)]) hS xe rfl ?_
      intro l w ho hcl hA hst
      refine xL hA hst ho hcl xf [0, 1, 2, 3] rfl rfl rfl (by exact ⟨nQ rfl (by exact qH (qU rfl Tryd.runUnderlying43 rfl Tryd.sizeOf3 rfl) rfl), nQ rfl (by exact qH (zD 0 rfl J6 rfl rfl Tryd.isAgg3) rfl), nA rfl, nQ rfl (by exact qH (xK rfl) (congrArg (Value.int .i64) U4.symm)), trivial⟩) fun a w hS => ?_
      replace hS := hS.env2 (e' := [(1, qp Un 0), (4, qp JN 0), (5, .int .i64 JR), (9, qp J2 0), (10, .int .i64 (0 : Int)), (11, .int .i64 VG), (65, .slice UJ JP.Sections_.length UM), (66, .int .i64 (JP.Sections_.length : Int)), (67, .int .i64 JO)]) ⟨rfl, rfl, rfl, rfl, rfl, rfl, rfl, rfl, rfl, trivial⟩
      refine qi <| zq (fun a w => ∃ (VA : Option Addr) (VL : Option Addr) (VO : Nat) (J1 : (List Int)) (Vs : qj) (Us : qj) (JX : Int) (JV : Int), Ss 170 [] [(1, qp Un 0), (4, qp JN 0), (5, .int .i64 JR), (9, qp J2 0), (10, .int .i64 JX), (11, .int .i64 JV), (65, .slice UJ JP.Sections_.length UM), (66, .int .i64 (JP.Sections_.length : Int)), (67, .int .i64 JO)] H [Vc, Us, Vs, J4, J9, V6] F a w ∧ (VA = none ∨ VA = some ⟨JN, 0, none⟩) ∧ (zp 5 (ci .u8) 1 VL J1 VO Vs) ∧ (zH Us JN ([.pointer VA, .slice VL J1.length VO, .pointer J8, .slice Vd JS.length Vh, .pointer Ve, .slice Vm JT.length Vq]) 85) ∧ (qY.j4 K (qY.l3 K JP JR U7) JP JS JT JO J1 JX JV).wp kr kp) (fun Gs UT => ?_) ?_
      ·refine wp_seq ?_
       refine zI <| sO hS (qU rfl Tryd.runUnderlying43 rfl Tryd.sizeOf9 rfl) rfl fun hS => sO hS (zD 0 rfl J6 rfl rfl Tryd.isAgg9) rfl fun hS => sO hS (vW rfl rfl rfl) rfl fun hS => qs <| qI hS rfl hM (fun Bm hM => ?_) (fun Bm hM => ?_)
       ·refine wp_seq ?_
        refine qR (vals := [some (qp JN 0), none, some (qp J2 4), some (qr ((rd JP.Sections_ JO).Data_)), some (.int .i64 (((rd JP.Sections_ JO).Data_).length : Int)), none, none]) hS xe rfl ?_
        intro l w ho hcl hA hst
        refine yA hA hst ho hcl zU xf 1 [0, 2, 3, 4] rfl rfl rfl rfl rfl (by exact ⟨nM rfl, nQ rfl (by exact qH (qU rfl Tryd.runUnderlying43 rfl Tryd.sizeOf9 rfl) rfl), nQ rfl (by exact qH (zD 0 rfl J6 rfl rfl Tryd.isAgg9) rfl), nQ rfl (by exact qH (yi rfl Tryd.runUnderlying9) rfl), trivial⟩) fun D l a w ho hcl hav hpre hm hE hk hA hst => ?_
        have hS := (Ss.mk hE hst).env2 (e' := [(76, qp JN 0)]) ⟨rfl, trivial⟩
        refine qy rfl <| ql hS rfl Tryd.call39 (jH hG K (qg.mk (qc.mk J0) (qc.mk JS) JT) JN VQ Vz VK VN VP J8 Vd Vh J4 Ve Vm Vq J9 Uh Uf Ui VE VF VW VY (hS.st.part 4 [2, 3, 4, 5, 0, 1] (by kernel_rfl)) (qf hM) (fun Ub Bq Br BR Kd Kz KA w hM Dh Di Dj hst => qk hS.ev hst.appF rfl fun hS => ?_))
        replace hS : Ss _ _ _ H [KA, Kz, J4, J9, V6, Vc] F _ _ := hS
        refine qs ?_
        replace hst := hS.st
        obtain ⟨Vk, U5⟩ : ∃ x, x = (((rd JP.Sections_ JO).Data_).length : Int) := ⟨_, rfl⟩
        replace hM := qO U5 hM
        obtain ⟨hcl, hmust, hav2, hA⟩ := dn (vals' := [some (qp JN 0), some (.int .i64 Ub), some (qp J2 4), some (qr ((rd JP.Sections_ JO).Data_)), some (.int .i64 (((rd JP.Sections_ JO).Data_).length : Int)), some (.int .i64 Ub), some (.int .i64 Vk)]) 1 [(0, 1)] hA hcl hav hm hpre hk rfl rfl rfl rfl rfl rfl rfl
        clear hm hav
        refine xL hA hst ho hcl hmust [2, 3, 4, 5, 6] rfl rfl rfl (by exact ⟨nQ rfl (by exact qH (qU rfl Tryd.runUnderlying43 rfl Tryd.sizeOf9 rfl) rfl), nQ rfl (by exact qH (zD 4 rfl J6 rfl rfl Tryd.isAgg9) rfl), nQ rfl (by exact qH (yi rfl Tryd.runUnderlying9) rfl), nA rfl, nQ rfl (by exact qH (xK rfl) (congrArg (Value.int .i64) U5.symm)), trivial⟩) fun a w hS => ?_
        replace hS := hS.env2 (e' := [(1, qp Un 0), (4, qp JN 0), (5, .int .i64 JR), (9, qp J2 0), (10, .int .i64 Ub), (11, .int .i64 Vk), (65, .slice UJ JP.Sections_.length UM), (66, .int .i64 (JP.Sections_.length : Int)), (67, .int .i64 JO)]) ⟨rfl, rfl, rfl, rfl, rfl, rfl, rfl, rfl, rfl, trivial⟩
        refine qi <| qR (vals := [some (qp JN 0), some (qp JN 0), some (qp JN 0), some (qp JN 0), some (qp J2 4), some (qr ((rd JP.Sections_ JO).Data_)), none]) hS xe rfl ?_
        intro l w ho hcl hA hst
        refine yA hA hst ho hcl zU xf 6 [0, 1, 2, 3, 4, 5] rfl rfl rfl rfl rfl (by exact ⟨nM rfl, nQ rfl (by exact qH (xm rfl) rfl), nQ rfl (by exact qH (qU rfl Tryd.runUnderlying85 rfl Tryd.sizeOf83 rfl) rfl), nQ rfl (by exact qH (qU rfl Tryd.runUnderlying83 rfl Tryd.sizeOf81 rfl) rfl), nQ rfl (by exact qH (qU rfl Tryd.runUnderlying43 rfl Tryd.sizeOf9 rfl) rfl), nQ rfl (by exact qH (zD 4 rfl J6 rfl rfl Tryd.isAgg9) rfl), trivial⟩) fun D l a w ho hcl hav hpre hm hE hk hA hst => ?_
        have hS := (Ss.mk hE hst).env2 (e' := [(84, qp JN 0), (86, qr ((rd JP.Sections_ JO).Data_))]) ⟨rfl, rfl, trivial⟩
        refine qy rfl <| ql hS rfl Tryd.call37 (xg hG K (qg.mk (qc.mk Kd) (qc.mk JS) JT) ((rd JP.Sections_ JO).Data_) JN KA Bq Br BR Kz J8 Vd Vh J4 Ve Vm Vq J9 Dj Dh Di VE VF VW VY (hS.st.part 4 [0, 1, 2, 3, 4, 5] (by kernel_rfl)) (qf hM) (fun DZ Bs Bt BS Ke KB KC w hM Dk Dl Dm hst => qk hS.ev hst.appF rfl fun hS => ?_))
        replace hS : Ss _ _ _ H [KC, KB, J4, J9, V6, Vc] F _ _ := hS
        refine qs ?_
        replace hst := hS.st
        obtain ⟨hcl, hmust, hav2, hA⟩ := dn (vals' := [some (qp JN 0), some (qp JN 0), some (qp JN 0), some (qp JN 0), some (qp J2 4), some (qr ((rd JP.Sections_ JO).Data_)), some (.tuple ⟨[.int .i64 DZ, .nilIface]⟩)]) 6 [(3, 6), (5, 6), (2, 3), (4, 5), (1, 2), (0, 1)] hA hcl hav hm hpre hk rfl rfl rfl rfl rfl rfl rfl
        clear hm hav
        refine xL hA hst ho hcl hmust [] rfl rfl rfl trivial fun a w hS => ?_
        replace hS := hS.env2 (e' := [(1, qp Un 0), (4, qp JN 0), (5, .int .i64 JR), (9, qp J2 0), (10, .int .i64 Ub), (11, .int .i64 Vk), (65, .slice UJ JP.Sections_.length UM), (66, .int .i64 (JP.Sections_.length : Int)), (67, .int .i64 JO)]) ⟨rfl, rfl, rfl, rfl, rfl, rfl, rfl, rfl, rfl, trivial⟩
        refine qi ?_
        exact UT _ _ ⟨Bs, Bt, BS, Ke, KB, KC, Ub, Vk, hS.to [5, 0, 1, 2, 3, 4] (by kernel_rfl) ⟨rfl, rfl, rfl, rfl, rfl, rfl, rfl, rfl, rfl, trivial⟩, Dk, Dl, Dm, hM⟩
       ·refine wp_skip ?_
        refine qi ?_
        exact UT _ _ ⟨Vz, VK, VN, J0, VP, VQ, (0 : Int), VG, hS.to [1, 2, 3, 4, 5, 0] (by kernel_rfl) ⟨rfl, rfl, rfl, rfl, rfl, rfl, rfl, rfl, rfl, trivial⟩, Uf, Ui, Uh, hM⟩
      ·intro a w hI
       obtain ⟨VA, VL, VO, J1, Vs, Us, JX, JV, hS, Ug, Uj, Be, hM⟩ := hI
       rw [qY.j4] at hM
       refine qR (vals := [some (qp JN 0), some (qp JN 0), some (qp J2 0), some (qr ((rd JP.Sections_ JO).Name_)), none, some (.agg ⟨[qr ((rd JP.Sections_ JO).Name_), .int .i64 ((rd JP.Sections_ JO).Type_), .int .u64 ((rd JP.Sections_ JO).Flags_), .int .u64 ((rd JP.Sections_ JO).Addr_), qr ((rd JP.Sections_ JO).Data_), .int .i64 ((rd JP.Sections_ JO).Size_), .int .i64 ((rd JP.Sections_ JO).Link_), .int .i64 ((rd JP.Sections_ JO).Info_), .int .u64 ((rd JP.Sections_ JO).Align_), .int .u64 ((rd JP.Sections_ JO).Each_)]⟩), some (.int .i64 JX), some (.int .i64 JV), none]) hS xe rfl ?_
       intro l w ho hcl hA hst
       refine yA hA hst ho hcl zU xf 4 [0, 1, 2, 3, 5, 6, 7] rfl rfl rfl rfl rfl (by exact ⟨nM rfl, nM rfl, nQ rfl (by exact qH (qU rfl Tryd.runUnderlying43 rfl Tryd.sizeOf9 rfl) rfl), nQ rfl (by exact qH (zD 5 rfl J6 rfl rfl Tryd.isAgg9) rfl), nQ rfl (by exact qH (xR 5 rfl J6 rfl ([qr ((rd JP.Sections_ JO).Name_), .int .i64 ((rd JP.Sections_ JO).Type_), .int .u64 ((rd JP.Sections_ JO).Flags_), .int .u64 ((rd JP.Sections_ JO).Addr_), qr ((rd JP.Sections_ JO).Data_), .int .i64 ((rd JP.Sections_ JO).Size_), .int .i64 ((rd JP.Sections_ JO).Link_), .int .i64 ((rd JP.Sections_ JO).Info_), .int .u64 ((rd JP.Sections_ JO).Align_), .int .u64 ((rd JP.Sections_ JO).Each_)]) rfl rfl Tryd.isAgg43 Tryd.sizeOf43) rfl), nM rfl, nM rfl, trivial⟩) fun D l a w ho hcl hav hpre hm hE hk hA hst => ?_
       have hS := (Ss.mk hE hst).env2 (e' := [(89, qp JN 0), (91, qr ((rd JP.Sections_ JO).Name_))]) ⟨rfl, rfl, trivial⟩
       refine qy rfl <| ql hS rfl Tryd.call36 (yL hG K (qg.mk (qc.mk J1) (qc.mk JS) JT) ((rd JP.Sections_ JO).Name_) JN Us VA VL VO Vs J8 Vd Vh J4 Ve Vm Vq J9 Be Ug Uj VE VF VW VY (hS.st.part 4 [1, 2, 3, 4, 0, 5] (by kernel_rfl)) (qf hM) (fun UD Kr Ks Kw Uo Ut KD w hM KU KV Dn hst => qk hS.ev hst.appF rfl fun hS => ?_))
       replace hS : Ss _ _ _ H [KD, Vs, J4, Ut, Vc, V6] F _ _ := hS
       refine qs ?_
       replace hst := hS.st
       obtain ⟨hcl, hmust, hav2, hA⟩ := dn (vals' := [some (qp JN 0), some (qp JN 0), some (qp J2 0), some (qr ((rd JP.Sections_ JO).Name_)), some (.int .i64 UD), some (.agg ⟨[qr ((rd JP.Sections_ JO).Name_), .int .i64 ((rd JP.Sections_ JO).Type_), .int .u64 ((rd JP.Sections_ JO).Flags_), .int .u64 ((rd JP.Sections_ JO).Addr_), qr ((rd JP.Sections_ JO).Data_), .int .i64 ((rd JP.Sections_ JO).Size_), .int .i64 ((rd JP.Sections_ JO).Link_), .int .i64 ((rd JP.Sections_ JO).Info_), .int .u64 ((rd JP.Sections_ JO).Align_), .int .u64 ((rd JP.Sections_ JO).Each_)]⟩), some (.int .i64 JX), some (.int .i64 JV), none]) 4 [(1, 4), (3, 4), (2, 3)] hA hcl hav hm hpre hk rfl rfl rfl rfl rfl rfl rfl
       clear hm hav
       refine yA hA hst ho hcl hav2 hmust 8 [0, 5, 6, 7] rfl rfl rfl rfl rfl (by exact ⟨nM rfl, nQ rfl (by exact qH (xR 5 rfl J6 rfl ([qr ((rd JP.Sections_ JO).Name_), .int .i64 ((rd JP.Sections_ JO).Type_), .int .u64 ((rd JP.Sections_ JO).Flags_), .int .u64 ((rd JP.Sections_ JO).Addr_), qr ((rd JP.Sections_ JO).Data_), .int .i64 ((rd JP.Sections_ JO).Size_), .int .i64 ((rd JP.Sections_ JO).Link_), .int .i64 ((rd JP.Sections_ JO).Info_), .int .u64 ((rd JP.Sections_ JO).Align_), .int .u64 ((rd JP.Sections_ JO).Each_)]) rfl rfl Tryd.isAgg43 Tryd.sizeOf43) rfl), nM rfl, nM rfl, trivial⟩) fun D l a w ho hcl hav hpre hm hE hk hA hst => ?_
       have hS := (Ss.mk hE hst).env2 (e' := [(88, qp JN 0), (92, .int .i64 UD), (93, .agg ⟨[qr ((rd JP.Sections_ JO).Name_), .int .i64 ((rd JP.Sections_ JO).Type_), .int .u64 ((rd JP.Sections_ JO).Flags_), .int .u64 ((rd JP.Sections_ JO).Addr_), qr ((rd JP.Sections_ JO).Data_), .int .i64 ((rd JP.Sections_ JO).Size_), .int .i64 ((rd JP.Sections_ JO).Link_), .int .i64 ((rd JP.Sections_ JO).Info_), .int .u64 ((rd JP.Sections_ JO).Align_), .int .u64 ((rd JP.Sections_ JO).Each_)]⟩), (94, .int .i64 JX), (95, .int .i64 JV)]) ⟨rfl, rfl, rfl, rfl, rfl, trivial⟩
       refine qy rfl <| ql hS rfl Tryd.call40 (yX hG K (qg.mk (qc.mk J1) (qc.mk JS) Uo) UD (qa.mk ((rd JP.Sections_ JO).Name_) ((rd JP.Sections_ JO).Type_) ((rd JP.Sections_ JO).Flags_) ((rd JP.Sections_ JO).Addr_) ((rd JP.Sections_ JO).Data_) ((rd JP.Sections_ JO).Size_) ((rd JP.Sections_ JO).Link_) ((rd JP.Sections_ JO).Info_) ((rd JP.Sections_ JO).Align_) ((rd JP.Sections_ JO).Each_)) JX JV JN KD VA VL VO Vs J8 Vd Vh J4 Kr Ks Kw Ut Dn Ug Uj VE VF KU KV (hS.st.part 4 [0, 1, 2, 3, 4, 5] (by kernel_rfl)) (qf hM) (fun Bu Bv BT Kf KE KF w hM Do Dp Dq hst => qk hS.ev hst.appF rfl fun hS => ?_))
       replace hS : Ss _ _ _ H [KF, Vs, KE, Ut, Vc, V6] F _ _ := hS
       refine qs ?_
       replace hst := hS.st
       obtain ⟨hcl, hmust, hav2, hA⟩ := dn (vals' := [some (qp JN 0), some (qp JN 0), some (qp J2 0), some (qr ((rd JP.Sections_ JO).Name_)), some (.int .i64 UD), some (.agg ⟨[qr ((rd JP.Sections_ JO).Name_), .int .i64 ((rd JP.Sections_ JO).Type_), .int .u64 ((rd JP.Sections_ JO).Flags_), .int .u64 ((rd JP.Sections_ JO).Addr_), qr ((rd JP.Sections_ JO).Data_), .int .i64 ((rd JP.Sections_ JO).Size_), .int .i64 ((rd JP.Sections_ JO).Link_), .int .i64 ((rd JP.Sections_ JO).Info_), .int .u64 ((rd JP.Sections_ JO).Align_), .int .u64 ((rd JP.Sections_ JO).Each_)]⟩), some (.int .i64 JX), some (.int .i64 JV), some (.tuple ⟨[]⟩)]) 8 [(0, 8), (4, 8), (5, 8), (6, 8), (7, 8), (1, 4), (3, 4), (2, 3)] hA hcl hav hm hpre hk rfl rfl rfl rfl rfl rfl rfl
       clear hm hav
       refine xL hA hst ho hcl hmust [] rfl rfl rfl trivial fun a w hS => ?_
       replace hS := hS.env2 (e' := [(1, qp Un 0), (4, qp JN 0), (5, .int .i64 JR), (65, .slice UJ JP.Sections_.length UM), (66, .int .i64 (JP.Sections_.length : Int)), (67, .int .i64 JO)]) ⟨rfl, rfl, rfl, rfl, rfl, rfl, trivial⟩
       refine xr (qi ?_)
       refine zI <| sB hS rfl fun hS => sM hS rfl fun hS => qN <| qi ?_
       exact Bh _ _ ⟨VA, VL, VO, J1, Vs, Bu, Bv, BT, Kf, KE, Kr, Ks, Kw, Uo, Ut, KF, (qM (JO + (1 : Int))), hS.to [4, 0, 1, 2, 3] (by kernel_rfl) ⟨rfl, rfl, rfl, rfl, rfl, rfl, trivial⟩, Ug, Uj, Do, Dp, KU, KV, Dq, hM⟩
     ·refine wp_exit ?_
      refine qK (qK (zi (qi ?_)))
      exact Bi _ _ ⟨Vz, VK, VN, J0, VP, J8, Vd, Vh, JS, J4, Ve, Vm, Vq, JT, J9, VQ, hS.to [0, 1, 2, 3, 4] (by kernel_rfl) ⟨rfl, rfl, rfl, trivial⟩, Uf, Ui, VE, VF, VW, VY, Uh, hM⟩
   ·intro a w hI
    obtain ⟨VM, V0, V4, J7, VR, Vn, VB, VC, JY, Va, V1, Uk, Uq, Vf, Uu, Uv, hS, UR, UU, VX, VZ, Bc, Bj, Bf, hM⟩ := hI
    rw [qY.j5] at hM
    refine qn <| sM hS rfl fun hS => ql hS rfl Tryd.call36 (yL hG K (qg.mk (qc.mk J7) (qc.mk JY) Vf) ([46, 115, 104, 115, 116, 114, 116, 97, 98] : List UInt8) JN Uv VM V0 V4 VR Vn VB VC Va V1 Uk Uq Uu Bf UR UU VX VZ Bc Bj (hS.st.part 4 [1, 2, 3, 4, 0] (by kernel_rfl)) (qf hM) (fun VT Vo Vp Vr JZ Vt KG w hM Vw Uz Dr hst => qk hS.ev hst.appF rfl fun hS => ?_))
    replace hS : Ss _ _ _ H [KG, VR, Va, Vt, Vc] F _ _ := hS
    refine sA hS rfl fun hS => qs <| wp_seq <| qR (vals := [some (qp JN 0), some (.int .i64 VT), some (.agg ⟨[qr ([] : List UInt8), .int .i64 (3 : Int), .int .u64 (0 : Int), .int .u64 (0 : Int), qr ([] : List UInt8), .int .i64 (0 : Int), .int .i64 (0 : Int), .int .i64 (0 : Int), .int .u64 (1 : Int), .int .u64 (0 : Int)]⟩), some (qp JN 0), none, some (qp JN 0), some (qp JN 0), some (qp JN 4), none, none]) hS xe rfl ?_
    intro l w ho hcl hA hst
    refine yA hA hst ho hcl zU xf 4 [0, 1, 2, 3, 5, 6, 7] rfl rfl rfl rfl rfl (by exact ⟨nM rfl, nM rfl, nQ rfl (by exact qH (jW ([qr ([] : List UInt8), .int .i64 (3 : Int), .int .u64 (0 : Int), .int .u64 (0 : Int), qr ([] : List UInt8), .int .i64 (0 : Int), .int .i64 (0 : Int), .int .i64 (0 : Int), .int .u64 (1 : Int), .int .u64 (0 : Int)]) [(0, 1), (1, 1), (2, 1), (3, 1), (4, 1), (5, 1), (6, 1), (7, 1), (8, 1), (9, 1)] Tryd.zeroValue43 Tryd.runUnderlying43 (by intro w; simp [Tryd.sizeOf23, Tryd.sizeOf3, Tryd.sizeOf9]) rfl (by kernel_rfl)) rfl), nM rfl, nM rfl, nQ rfl (by exact qH (xm rfl) rfl), nQ rfl (by exact qH (qU rfl Tryd.runUnderlying85 rfl Tryd.sizeOf81 rfl) rfl), trivial⟩) fun D l a w ho hcl hav hpre hm hE hk hA hst => ?_
    have hS := (Ss.mk hE hst).env2 (e' := [(103, qp JN 0)]) ⟨rfl, trivial⟩
    refine qy rfl <| ql hS rfl Tryd.call39 (jH hG K (qg.mk (qc.mk J7) (qc.mk JY) JZ) JN KG VM V0 V4 VR Vn VB VC Va Vo Vp Vr Vt Dr UR UU VX VZ Vw Uz (hS.st.part 4 [0, 1, 2, 3, 4] (by kernel_rfl)) (qf hM) (fun Uc Ul Um Ur Vy Vu Uw w hM UA UB KW hst => qk hS.ev hst.appF rfl fun hS => ?_))
    replace hS : Ss _ _ _ H [Uw, Vu, Va, Vt, Vc] F _ _ := hS
    refine qs ?_
    replace hst := hS.st
    obtain ⟨hcl, hmust, hav2, hA⟩ := dn (vals' := [some (qp JN 0), some (.int .i64 VT), some (.agg ⟨[qr ([] : List UInt8), .int .i64 (3 : Int), .int .u64 (0 : Int), .int .u64 (0 : Int), qr ([] : List UInt8), .int .i64 (0 : Int), .int .i64 (0 : Int), .int .i64 (0 : Int), .int .u64 (1 : Int), .int .u64 (0 : Int)]⟩), some (qp JN 0), some (.int .i64 Uc), some (qp JN 0), some (qp JN 0), some (qp JN 4), none, none]) 4 [(3, 4)] hA hcl hav hm hpre hk rfl rfl rfl rfl rfl rfl rfl
    clear hm hav
    refine yA hA hst ho hcl hav2 hmust 8 [0, 1, 2, 5, 6, 7] rfl rfl rfl rfl rfl (by exact ⟨nM rfl, nM rfl, nQ rfl (by exact qH (jW ([qr ([] : List UInt8), .int .i64 (3 : Int), .int .u64 (0 : Int), .int .u64 (0 : Int), qr ([] : List UInt8), .int .i64 (0 : Int), .int .i64 (0 : Int), .int .i64 (0 : Int), .int .u64 (1 : Int), .int .u64 (0 : Int)]) [(0, 1), (1, 1), (2, 1), (3, 1), (4, 1), (5, 1), (6, 1), (7, 1), (8, 1), (9, 1)] Tryd.zeroValue43 Tryd.runUnderlying43 (by intro w; simp [Tryd.sizeOf23, Tryd.sizeOf3, Tryd.sizeOf9]) rfl (by kernel_rfl)) rfl), nM rfl, nQ rfl (by exact qH (xm rfl) rfl), nQ rfl (by exact qH (qU rfl Tryd.runUnderlying85 rfl Tryd.sizeOf81 rfl) rfl), trivial⟩) fun D l a w ho hcl hav hpre hm hE hk hA hst => ?_
    have hS := (Ss.mk hE hst).env2 (e' := [(107, qp JN 4)]) ⟨rfl, trivial⟩
    refine qy rfl <| ql hS rfl Tryd.call41 (xO hG K (qg.mk (qc.mk Vy) (qc.mk JY) JZ) JN Uw Ul Um Ur Vu Vn VB VC Va Vo Vp Vr Vt KW UA UB VX VZ Vw Uz (hS.st.part 4 [0, 1, 2, 3, 4] (by kernel_rfl)) (qf hM) (fun UE w hM  hst => qk hS.ev hst.appF rfl fun hS => ?_))
    replace hS : Ss _ _ _ H [Uw, Vu, Va, Vt, Vc] F _ _ := hS
    refine qs ?_
    replace hst := hS.st
    obtain ⟨hcl, hmust, hav2, hA⟩ := dn (vals' := [some (qp JN 0), some (.int .i64 VT), some (.agg ⟨[qr ([] : List UInt8), .int .i64 (3 : Int), .int .u64 (0 : Int), .int .u64 (0 : Int), qr ([] : List UInt8), .int .i64 (0 : Int), .int .i64 (0 : Int), .int .i64 (0 : Int), .int .u64 (1 : Int), .int .u64 (0 : Int)]⟩), some (qp JN 0), some (.int .i64 Uc), some (qp JN 0), some (qp JN 0), some (qp JN 4), some (.int .i64 UE), none]) 8 [(4, 8), (7, 8), (3, 4), (6, 7), (5, 6)] hA hcl hav hm hpre hk rfl rfl rfl rfl rfl rfl rfl
    clear hm hav
    refine yA hA hst ho hcl hav2 hmust 9 [0, 1, 2] rfl rfl rfl rfl rfl (by exact ⟨nM rfl, nM rfl, nQ rfl (by exact qH (jW ([qr ([] : List UInt8), .int .i64 (3 : Int), .int .u64 (0 : Int), .int .u64 (0 : Int), qr ([] : List UInt8), .int .i64 (0 : Int), .int .i64 (0 : Int), .int .i64 (0 : Int), .int .u64 (1 : Int), .int .u64 (0 : Int)]) [(0, 1), (1, 1), (2, 1), (3, 1), (4, 1), (5, 1), (6, 1), (7, 1), (8, 1), (9, 1)] Tryd.zeroValue43 Tryd.runUnderlying43 (by intro w; simp [Tryd.sizeOf23, Tryd.sizeOf3, Tryd.sizeOf9]) rfl (by kernel_rfl)) rfl), trivial⟩) fun D l a w ho hcl hav hpre hm hE hk hA hst => ?_
    have hS := (Ss.mk hE hst).env2 (e' := [(100, qp JN 0), (101, .int .i64 VT), (102, .agg ⟨[qr ([] : List UInt8), .int .i64 (3 : Int), .int .u64 (0 : Int), .int .u64 (0 : Int), qr ([] : List UInt8), .int .i64 (0 : Int), .int .i64 (0 : Int), .int .i64 (0 : Int), .int .u64 (1 : Int), .int .u64 (0 : Int)]⟩), (104, .int .i64 Uc), (108, .int .i64 UE)]) ⟨rfl, rfl, rfl, rfl, rfl, trivial⟩
    refine qy rfl <| ql hS rfl Tryd.call40 (yX hG K (qg.mk (qc.mk Vy) (qc.mk JY) JZ) VT (qa.mk ([] : List UInt8) (3 : Int) (0 : Int) (0 : Int) ([] : List UInt8) (0 : Int) (0 : Int) (0 : Int) (1 : Int) (0 : Int)) Uc UE JN Uw Ul Um Ur Vu Vn VB VC Va Vo Vp Vr Vt KW UA UB VX VZ Vw Uz (hS.st.part 4 [0, 1, 2, 3, 4] (by kernel_rfl)) (qf hM) (fun V2 V3 V5 Vg JU Ux w hM V9 Ua KX hst => qk hS.ev hst.appF rfl fun hS => ?_))
    replace hS : Ss _ _ _ H [Ux, Vu, JU, Vt, Vc] F _ _ := hS
    refine qs ?_
    replace hst := hS.st
    obtain ⟨hcl, hmust, hav2, hA⟩ := dn (vals' := [some (qp JN 0), some (.int .i64 VT), some (.agg ⟨[qr ([] : List UInt8), .int .i64 (3 : Int), .int .u64 (0 : Int), .int .u64 (0 : Int), qr ([] : List UInt8), .int .i64 (0 : Int), .int .i64 (0 : Int), .int .i64 (0 : Int), .int .u64 (1 : Int), .int .u64 (0 : Int)]⟩), some (qp JN 0), some (.int .i64 Uc), some (qp JN 0), some (qp JN 0), some (qp JN 4), some (.int .i64 UE), some (.tuple ⟨[]⟩)]) 9 [(0, 9), (1, 9), (2, 9), (4, 9), (8, 9), (3, 4), (7, 8), (6, 7), (5, 6)] hA hcl hav hm hpre hk rfl rfl rfl rfl rfl rfl rfl
    clear hm hav
    refine xL hA hst ho hcl hmust [] rfl rfl rfl trivial fun a w hS => ?_
    replace hS := hS.env2 (e' := [(1, qp Un 0), (4, qp JN 0), (5, .int .i64 JR)]) ⟨rfl, rfl, rfl, trivial⟩
    refine qi <| wp_seq <| qR (vals := [some (qp JN 0), some (qp JN 0), some (qp JN 0), some (qp JN 0), some (qp JN 0), some (qp JN 0), some (qp JN 4), none, none]) hS xe rfl ?_
    intro l w ho hcl hA hst
    refine yA hA hst ho hcl zU xf 7 [0, 1, 2, 3, 4, 5, 6] rfl rfl rfl rfl rfl (by exact ⟨nM rfl, nQ rfl (by exact qH (xm rfl) rfl), nQ rfl (by exact qH (qU rfl Tryd.runUnderlying85 rfl Tryd.sizeOf83 rfl) rfl), nQ rfl (by exact qH (qU rfl Tryd.runUnderlying83 rfl Tryd.sizeOf81 rfl) rfl), nM rfl, nQ rfl (by exact qH (xm rfl) rfl), nQ rfl (by exact qH (qU rfl Tryd.runUnderlying85 rfl Tryd.sizeOf81 rfl) rfl), trivial⟩) fun D l a w ho hcl hav hpre hm hE hk hA hst => ?_
    have hS := (Ss.mk hE hst).env2 (e' := [(116, qp JN 4)]) ⟨rfl, trivial⟩
    refine qy rfl <| ql hS rfl Tryd.call42 (yI hG K (qg.mk (qc.mk Vy) (qc.mk Vg) JZ) JN Ux Ul Um Ur Vu V2 V3 V5 JU Vo Vp Vr Vt KX UA UB V9 Ua Vw Uz (hS.st.part 4 [0, 1, 2, 3, 4] (by kernel_rfl)) (qf hM) (fun UF w hM  hst => qk hS.ev hst.appF rfl fun hS => ?_))
    replace hS : Ss _ _ _ H [Ux, Vu, JU, Vc] F _ _ := hS
    refine qs ?_
    replace hst := hS.st
    obtain ⟨hcl, hmust, hav2, hA⟩ := dn (vals' := [some (qp JN 0), some (qp JN 0), some (qp JN 0), some (qp JN 0), some (qp JN 0), some (qp JN 0), some (qp JN 4), some (qr UF), none]) 7 [(6, 7), (5, 6), (4, 5)] hA hcl hav hm hpre hk rfl rfl rfl rfl rfl rfl rfl
    clear hm hav
    refine yA hA hst ho hcl hav2 hmust 8 [0, 1, 2, 3] rfl rfl rfl rfl rfl (by exact ⟨nM rfl, nQ rfl (by exact qH (xm rfl) rfl), nQ rfl (by exact qH (qU rfl Tryd.runUnderlying85 rfl Tryd.sizeOf83 rfl) rfl), nQ rfl (by exact qH (qU rfl Tryd.runUnderlying83 rfl Tryd.sizeOf81 rfl) rfl), trivial⟩) fun D l a w ho hcl hav hpre hm hE hk hA hst => ?_
    have hS := (Ss.mk hE hst).env2 (e' := [(113, qp JN 0), (117, qr UF)]) ⟨rfl, rfl, trivial⟩
    refine qy rfl <| ql hS rfl Tryd.call37 (x7 hG K (qg.mk (qc.mk Vy) (qc.mk Vg) JZ) UF JN Ux Ul Um Ur Vu V2 V3 V5 JU Vo Vp Vr KX UA UB V9 Ua Vw (hS.st.part 3 [0, 1, 2, 3] (by kernel_rfl)) (qf hM) (fun D0 Bw Bx BU Kg KH KI w hM Ds Dt Du hst => qk hS.ev hst.appF rfl fun hS => ?_))
    replace hS : Ss _ _ _ H [KI, KH, JU, Vc] F _ _ := hS
    refine qs ?_
    replace hst := hS.st
    obtain ⟨hcl, hmust, hav2, hA⟩ := dn (vals' := [some (qp JN 0), some (qp JN 0), some (qp JN 0), some (qp JN 0), some (qp JN 0), some (qp JN 0), some (qp JN 4), some (qr UF), some (.tuple ⟨[.int .i64 D0, .nilIface]⟩)]) 8 [(3, 8), (7, 8), (2, 3), (6, 7), (1, 2), (5, 6), (0, 1), (4, 5)] hA hcl hav hm hpre hk rfl rfl rfl rfl rfl rfl rfl
    clear hm hav
    refine xL hA hst ho hcl hmust [] rfl rfl rfl trivial fun a w hS => ?_
    replace hS := hS.env2 (e' := [(1, qp Un 0), (4, qp JN 0), (5, .int .i64 JR)]) ⟨rfl, rfl, rfl, trivial⟩
    refine qi <| qn <| sM hS rfl fun hS => ql hS rfl Tryd.call39 (jO hG K (qg.mk (qc.mk Kg) (qc.mk Vg) JZ) JN KI Bw Bx BU KH V2 V3 V5 JU Vo Vp Vr Du Ds Dt V9 Ua Vw (hS.st.part 3 [0, 1, 2, 3] (by kernel_rfl)) (qf hM) (fun U9 Kt Ku Kx Up Vi J5 w hM KY Dv KZ hst => qk hS.ev hst.appF rfl fun hS => ?_))
    replace hS : Ss _ _ _ H [J5, Vi, JU, Vc] F _ _ := hS
    refine sA hS rfl fun hS => qs <| qn <| jY ([.pointer none, .slice none 0 0]) hS Tryd.zeroValue83 rfl rfl fun w J3 B7 Bg hS => ?_
    obtain ⟨B8, Bk, hS⟩ := hS.nilV 5 (ci .u8) 1
    refine qs <| qn <| sO hS (qU rfl Tryd.runUnderlying83 rfl Tryd.sizeOf81 rfl) rfl fun hS => ql hS rfl Tryd.call37 (xh hG K (qc.mk ([] : List Int)) ([127, 69, 76, 70, 2, 1, 1, 0, 0, 0, 0, 0, 0, 0, 0, 0] : List UInt8) J3 B7 none none (0) B8 Bg (.inl rfl) Bk (hS.st.part 2 [1, 0, 2, 3, 4, 5] (by kernel_rfl)) (qf hM) (fun Gw By Bz BV Kh KJ KK w hM Dw Dx Dy hst => qk hS.ev hst.appF rfl fun hS => ?_))
    replace hS : Ss _ _ _ H [KK, KJ, J5, Vi, JU, Vc] F _ _ := hS
    refine qs <| qn <| sO hS (qU rfl Tryd.runUnderlying27 rfl Tryd.sizeOf3 rfl) rfl fun hS => sO hS (zD 5 rfl VJ rfl rfl Tryd.isAgg3) rfl fun hS => sO hS (qU rfl Tryd.runUnderlying27 rfl Tryd.sizeOf3 rfl) rfl fun hS => sO hS (zD 5 rfl VJ rfl rfl Tryd.isAgg3) rfl fun hS => vQ (g := (ci .i64)) ([JP.Type_, JP.Machine_] : List Int) [.int .i64 JP.Type_, .int .i64 JP.Machine_] hS Tryd.runUnderlying65 Tryd.sizeOf3 X.el3 rfl rfl rfl (by simp [Value.cells]) rfl rfl rfl rfl rfl fun w BA BW Vv UW hS => ql hS rfl Tryd.call43 (js hG K (qc.mk Kh) ([JP.Type_, JP.Machine_] : List Int) J3 KK By Bz BV KJ BA BW Dy Dw Dx (UW.rdF (i := 0) rfl) (UW.cap (fun _ => rfl) rfl) (hS.st.part 2 [1, 2, 0, 3, 4, 5, 6] (by kernel_rfl)) (qf hM) (fun BB BC BX Ki KL KM w hM Dz DA DB hst => qk hS.ev hst.appF rfl fun hS => ?_))
    replace hS : Ss _ _ _ H [KM, KL, Vv, J5, Vi, JU, Vc] F _ _ := hS
    refine qs <| qn <| vQ (g := (ci .i64)) ([(1 : Int)] : List Int) [.int .i64 (1 : Int)] hS Tryd.runUnderlying65 Tryd.sizeOf3 X.el3 rfl rfl rfl (by simp [Value.cells]) rfl rfl rfl rfl rfl fun w BD BY VD UX hS => ql hS rfl Tryd.call34 (jt hG K (qc.mk Ki) ([(1 : Int)] : List Int) J3 KM BB BC BX KL BD BY DB Dz DA (UX.rdF (i := 0) rfl) (UX.cap (fun _ => rfl) rfl) (hS.st.part 2 [1, 2, 0, 3, 4, 5, 6, 7] (by kernel_rfl)) (qf hM) (fun BE BF BZ Kj KN KO w hM DC DD DE hst => qk hS.ev hst.appF rfl fun hS => ?_))
    replace hS : Ss _ _ _ H [KO, KN, VD, Vv, J5, Vi, JU, Vc] F _ _ := hS
    refine qs <| qn <| sO hS (qU rfl Tryd.runUnderlying27 rfl Tryd.sizeOf23 rfl) rfl fun hS => sO hS (zD 7 rfl VJ rfl rfl Tryd.isAgg23) rfl fun hS => sM hS rfl fun hS => sO hS (yM rfl Tryd.runUnderlying3 Tryd.runUnderlying23) rfl fun hS => sM hS rfl fun hS => sO hS (yM rfl Tryd.runUnderlying3 Tryd.runUnderlying23) rfl fun hS => vQ (g := (ci .u64)) ([JP.Entry_, (wr .u64 JR), (wr .u64 U9)] : List Int) [.int .u64 JP.Entry_, .int .u64 (wr .u64 JR), .int .u64 (wr .u64 U9)] hS Tryd.runUnderlying73 Tryd.sizeOf23 X.el23 rfl rfl rfl (by simp [Value.cells]) rfl rfl rfl rfl rfl fun w BG B0 VS UY hS => ql hS rfl Tryd.call35 (v3 hG K (qc.mk Kj) ([JP.Entry_, (wr .u64 JR), (wr .u64 U9)] : List Int) J3 KO BE BF BZ KN BG B0 DE DC DD (UY.rdF (i := 0) rfl) (UY.cap (fun _ => rfl) rfl) (hS.st.part 2 [1, 2, 0, 3, 4, 5, 6, 7, 8] (by kernel_rfl)) (qf hM) (fun BH BI B1 Kk KP KQ w hM DF DG DH hst => qk hS.ev hst.appF rfl fun hS => ?_))
    replace hS : Ss _ _ _ H [KQ, KP, VS, VD, Vv, J5, Vi, JU, Vc] F _ _ := hS
    refine qs <| qn <| sO hS (qU rfl Tryd.runUnderlying27 rfl Tryd.sizeOf3 rfl) rfl fun hS => sO hS (zD 8 rfl VJ rfl rfl Tryd.isAgg3) rfl fun hS => vQ (g := (ci .i64)) ([JP.Flags_] : List Int) [.int .i64 JP.Flags_] hS Tryd.runUnderlying65 Tryd.sizeOf3 X.el3 rfl rfl rfl (by simp [Value.cells]) rfl rfl rfl rfl rfl fun w BJ B2 V7 UZ hS => ql hS rfl Tryd.call34 (jt hG K (qc.mk Kk) ([JP.Flags_] : List Int) J3 KQ BH BI B1 KP BJ B2 DH DF DG (UZ.rdF (i := 0) rfl) (UZ.cap (fun _ => rfl) rfl) (hS.st.part 2 [1, 2, 0, 3, 4, 5, 6, 7, 8, 9] (by kernel_rfl)) (qf hM) (fun BK BL B3 Kl KR KS w hM DI DJ DK hst => qk hS.ev hst.appF rfl fun hS => ?_))
    replace hS : Ss _ _ _ H [KS, KR, V7, VS, VD, Vv, J5, Vi, JU, Vc] F _ _ := hS
    refine qs <| qn <| sO hS (qU rfl Tryd.runUnderlying27 rfl Tryd.sizeOf24 rfl) rfl fun hS => sO hS (zD 9 rfl VJ rfl rfl Tryd.isAgg24) rfl fun hS => sO hS (xz rfl Tryd.runUnderlying24) rfl fun hS => sO hS (qU rfl Tryd.runUnderlying27 rfl Tryd.sizeOf25 rfl) rfl fun hS => sO hS (zD 9 rfl VJ rfl rfl Tryd.isAgg25) rfl fun hS => sO hS (xz rfl Tryd.runUnderlying25) rfl fun hS => sB hS rfl fun hS => sO hS (qU rfl Tryd.runUnderlying27 rfl Tryd.sizeOf25 rfl) rfl fun hS => sO hS (zD 9 rfl VJ rfl rfl Tryd.isAgg25) rfl fun hS => sO hS (xz rfl Tryd.runUnderlying25) rfl fun hS => sB hS rfl fun hS => vQ (g := (ci .i64)) ([(64 : Int), (56 : Int), (JP.Segments_.length : Int), (64 : Int), (qM ((JP.Sections_.length : Int) + (2 : Int))), (qM ((JP.Sections_.length : Int) + (1 : Int)))] : List Int) [.int .i64 (64 : Int), .int .i64 (56 : Int), .int .i64 (JP.Segments_.length : Int), .int .i64 (64 : Int), .int .i64 (qM ((JP.Sections_.length : Int) + (2 : Int))), .int .i64 (qM ((JP.Sections_.length : Int) + (1 : Int)))] hS Tryd.runUnderlying65 Tryd.sizeOf3 X.el3 rfl rfl rfl (by simp [Value.cells]) rfl rfl rfl rfl rfl fun w BM B4 Uy U0 hS => ql hS rfl Tryd.call43 (js hG K (qc.mk Kl) ([(64 : Int), (56 : Int), (JP.Segments_.length : Int), (64 : Int), (qM ((JP.Sections_.length : Int) + (2 : Int))), (qM ((JP.Sections_.length : Int) + (1 : Int)))] : List Int) J3 KS BK BL B3 KR BM B4 DK DI DJ (U0.rdF (i := 0) rfl) (U0.cap (fun _ => rfl) rfl) (hS.st.part 2 [1, 2, 0, 3, 4, 5, 6, 7, 8, 9, 10] (by kernel_rfl)) (qf hM) (fun BN BO B5 Km KT V8 w hM DL DM DN hst => qk hS.ev hst.appF rfl fun hS => ?_))
    replace hS : Ss _ _ _ H [V8, KT, Uy, V7, VS, VD, Vv, J5, Vi, JU, Vc] F _ _ := hS
    refine qs <| wp_seq <| qR (vals := [some (qp J3 0), none, some (qp JN 0), some (qp JN 0), some (qp JN 0), some (qp JN 0), none, none, some (qp JN 0), some (qp JN 0), some (qp JN 2), some (qp JN 2), none, none, none, none]) hS xe rfl ?_
    intro l w ho hcl hA hst
    refine yA hA hst ho hcl zU xf 1 [0, 2, 3, 4, 5, 8, 9, 10, 11] rfl rfl rfl rfl rfl (by exact ⟨nQ rfl (by exact qH (qU rfl Tryd.runUnderlying83 rfl Tryd.sizeOf81 rfl) rfl), nM rfl, nQ rfl (by exact qH (xm rfl) rfl), nQ rfl (by exact qH (qU rfl Tryd.runUnderlying85 rfl Tryd.sizeOf83 rfl) rfl), nQ rfl (by exact qH (qU rfl Tryd.runUnderlying83 rfl Tryd.sizeOf81 rfl) rfl), nM rfl, nQ rfl (by exact qH (xm rfl) rfl), nQ rfl (by exact qH (qU rfl Tryd.runUnderlying85 rfl Tryd.sizeOf83 rfl) rfl), nQ rfl (by exact qH (qU rfl Tryd.runUnderlying83 rfl Tryd.sizeOf81 rfl) rfl), trivial⟩) fun D l a w ho hcl hav hpre hm hE hk hA hst => ?_
    have hS := (Ss.mk hE hst).env2 (e' := [(156, qp J3 0)]) ⟨rfl, trivial⟩
    refine qy rfl <| ql hS rfl Tryd.call42 (yH hG K (qc.mk Km) J3 V8 BN BO B5 KT DN DL DM (hS.st.part 2 [0, 1, 2, 3, 4, 5, 6, 7, 8, 9, 10] (by kernel_rfl)) (qf hM) (fun VH w hM  hst => qk hS.ev hst.appF rfl fun hS => ?_))
    replace hS : Ss _ _ _ H [V8, Uy, V7, VS, VD, Vv, J5, Vi, JU, Vc] F _ _ := hS
    refine qs ?_
    replace hst := hS.st
    obtain ⟨hcl, hmust, hav2, hA⟩ := dn (vals' := [some (qp J3 0), some (qr VH), some (qp JN 0), some (qp JN 0), some (qp JN 0), some (qp JN 0), none, none, some (qp JN 0), some (qp JN 0), some (qp JN 2), some (qp JN 2), none, none, none, none]) 1 [(0, 1)] hA hcl hav hm hpre hk rfl rfl rfl rfl rfl rfl rfl
    clear hm hav
    refine yA hA hst ho hcl hav2 hmust 6 [2, 3, 4, 5, 8, 9, 10, 11] rfl rfl rfl rfl rfl (by exact ⟨nM rfl, nQ rfl (by exact qH (xm rfl) rfl), nQ rfl (by exact qH (qU rfl Tryd.runUnderlying85 rfl Tryd.sizeOf83 rfl) rfl), nQ rfl (by exact qH (qU rfl Tryd.runUnderlying83 rfl Tryd.sizeOf81 rfl) rfl), nM rfl, nQ rfl (by exact qH (xm rfl) rfl), nQ rfl (by exact qH (qU rfl Tryd.runUnderlying85 rfl Tryd.sizeOf83 rfl) rfl), nQ rfl (by exact qH (qU rfl Tryd.runUnderlying83 rfl Tryd.sizeOf81 rfl) rfl), trivial⟩) fun D l a w ho hcl hav hpre hm hE hk hA hst => ?_
    have hS := (Ss.mk hE hst).env2 (e' := [(161, qp JN 0)]) ⟨rfl, trivial⟩
    refine qy rfl <| ql hS rfl Tryd.call42 (yG hG K (qg.mk (qc.mk Up) (qc.mk Vg) JZ) JN J5 Kt Ku Kx Vi V2 V3 V5 JU Vo Vp Vr KZ KY Dv V9 Ua Vw (hS.st.part 3 [6, 7, 8, 0, 1, 2, 3, 4, 5, 9] (by kernel_rfl)) (qf hM) (fun VU w hM  hst => qk hS.ev hst.appF rfl fun hS => ?_))
    replace hS : Ss _ _ _ H [J5, JU, V8, Uy, V7, VS, VD, Vv, Vc] F _ _ := hS
    refine qs ?_
    replace hst := hS.st
    obtain ⟨U3, hM⟩ := qL hM
    obtain ⟨hcl, hmust, hav2, hA⟩ := dn (vals' := [some (qp J3 0), some (qr VH), some (qp JN 0), some (qp JN 0), some (qp JN 0), some (qp JN 0), some (qr VU), some (qr (VH ++ VU)), some (qp JN 0), some (qp JN 0), some (qp JN 2), some (qp JN 2), none, none, none, none]) 6 [(1, 6), (5, 6), (0, 1), (4, 5), (3, 4), (2, 3)] hA hcl hav hm hpre hk rfl rfl rfl rfl rfl rfl rfl
    clear hm hav
    refine yA hA hst ho hcl hav2 hmust 12 [7, 8, 9, 10, 11] rfl rfl rfl rfl rfl (by exact ⟨nQ rfl (by exact qH (Ya rfl rfl U3) rfl), nM rfl, nQ rfl (by exact qH (xm rfl) rfl), nQ rfl (by exact qH (qU rfl Tryd.runUnderlying85 rfl Tryd.sizeOf83 rfl) rfl), nQ rfl (by exact qH (qU rfl Tryd.runUnderlying83 rfl Tryd.sizeOf81 rfl) rfl), trivial⟩) fun D l a w ho hcl hav hpre hm hE hk hA hst => ?_
    have hS := (Ss.mk hE hst).env2 (e' := [(167, qp JN 2)]) ⟨rfl, trivial⟩
    refine qy rfl <| ql hS rfl Tryd.call42 (yJ hG K (qg.mk (qc.mk Up) (qc.mk Vg) JZ) JN J5 Kt Ku Kx V2 V3 V5 JU Vo Vp Vr KZ KY V9 Ua Vw (hS.st.part 2 [0, 1, 2, 3, 4, 5, 6, 7, 8] (by kernel_rfl)) (qf hM) (fun Ka w hM  hst => qk hS.ev hst.appF rfl fun hS => ?_))
    replace hS : Ss _ _ _ H [J5, V8, Uy, V7, VS, VD, Vv, Vc] F _ _ := hS
    refine qs ?_
    replace hst := hS.st
    obtain ⟨Bn, hM⟩ := qL hM
    obtain ⟨U8, U6⟩ : ∃ x, x = ((VH ++ VU) ++ Ka) := ⟨_, rfl⟩
    replace hM := qO U6 hM
    obtain ⟨hcl, hmust, hav2, hA⟩ := dn (vals' := [some (qp J3 0), some (qr VH), some (qp JN 0), some (qp JN 0), some (qp JN 0), some (qp JN 0), some (qr VU), some (qr (VH ++ VU)), some (qp JN 0), some (qp JN 0), some (qp JN 2), some (qp JN 2), some (qr Ka), some (qr ((VH ++ VU) ++ Ka)), some (qr U8), some (.int .i64 (0 : Int))]) 12 [(6, 12), (11, 12), (1, 6), (5, 6), (10, 11), (0, 1), (4, 5), (9, 10), (3, 4), (8, 9), (2, 3)] hA hcl hav hm hpre hk rfl rfl rfl rfl rfl rfl rfl
    clear hm hav
    refine xL hA hst ho hcl hmust [7, 13, 14, 15] rfl rfl rfl (by exact ⟨nQ rfl (by exact qH (Ya rfl rfl U3) rfl), nQ rfl (by exact qH (Ya rfl rfl Bn) rfl), nQ rfl (by exact qH (xK rfl) (congrArg (qr) U6.symm)), nA rfl, trivial⟩) fun a w hS => ?_
    replace hS := hS.env2 (e' := [(2, qr U8), (3, .int .i64 (0 : Int))]) ⟨rfl, rfl, trivial⟩
    refine qi <| wp_ret ?_
    exact qT (rs := [2, 3]) hS rfl rfl (hret U8 (0 : Int) _ (qC hM) (hS.st.pick [] (by kernel_rfl)))
theorem ZT {H : zB} {F : List qj} {w : World} {R : Ending → World → Prop} {kr : Unit → Prop} {kp : Value → Prop} (hG : Gl H) (K : Nat) (JN : List UInt8)
    (hS : St w H [] F) (hm : (uX.m K JN).wp kr kp)
    (hret : ∀ (w : World), kr () → St w H [] F → R (.returned (.agg ⟨[qr JN, .int .i64 (0 : Int)]⟩)) w) :
    Calls Tryd.prog 19 ⟨[qr JN]⟩ w R := by
 refine enter Tryd.func19 rfl Tryd.ntmps19 rfl hS fun a w hS => ?_
 have hM := hm; clear hm
 rw [uX.m] at hM
 refine qn <| jY ([qr ([] : List UInt8), .int .i64 (0 : Int)]) hS Tryd.zeroValue47 rfl rfl fun w JQ JR JO hS => qs <| qn <| sM hS rfl fun hS => sO hS (jW ([qr JN, .int .i64 (0 : Int)]) [(0, 1), (1, 1)] Tryd.zeroValue47 Tryd.runUnderlying47 (by intro w; simp [Tryd.sizeOf3, Tryd.sizeOf9]) rfl rfl) rfl fun hS => jr 0 ([qr JN, .int .i64 (0 : Int)]) ([qr JN, .int .i64 (0 : Int)]) hS rfl rfl JO rfl rfl Tryd.sizeOf47 (by simp [Value.oneCell']) (Nat.le_of_ble_eq_true rfl) rfl fun w JS JP hS => qs <| wp_ret ?_
 exact xX (vs := [.agg ⟨[qr JN, .int .i64 (0 : Int)]⟩]) hS rfl (by exact ⟨uZ 0 ([qr JN, .int .i64 (0 : Int)]) rfl JP rfl rfl rfl Tryd.isAgg47 Tryd.sizeOf47, trivial⟩) (hret _ (qC hM) (hS.st.pick [] (by kernel_rfl)))
theorem jd {H : zB} {F : List qj} {w : World} {R : Ending → World → Prop} {kr : Int → Prop} {kp : Value → Prop} (hG : Gl H) (K : Nat) (JN : qq)
    (hS : St w H [] F) (hm : (xQ.m K JN).wp kr kp)
    (hret : ∀ (JO : Int) (w : World), kr JO → St w H [] F → R (.returned (.int .i64 JO)) w) :
    Calls Tryd.prog 52 ⟨[.agg ⟨[qr JN.text_, .int .i64 JN.base_]⟩]⟩ w R := by
 refine enter Tryd.func52 rfl Tryd.ntmps52 rfl hS fun a w hS => ?_
 have hM := hm; clear hm
 rw [xQ.m] at hM
 refine qn <| bx ([qr JN.text_, .int .i64 JN.base_]) hS rfl rfl rfl fun w JR JS JP hS => sA hS rfl fun hS => qs <| qn <| sO hS (qU rfl Tryd.runUnderlying47 rfl Tryd.sizeOf9 rfl) rfl fun hS => sO hS (zD 0 rfl JP rfl rfl Tryd.isAgg9) rfl fun hS => sO hS (yi rfl Tryd.runUnderlying9) rfl fun hS => zO (v := Value.int .i64) (x0 := (JN.text_.length : Int)) hS (xK rfl) rfl fun JQ a w hz hS => ?_
 have hM := qO hz hM; clear hz
 refine qs <| wp_ret ?_
 exact qT (rs := [2]) hS rfl rfl (hret JQ _ (qC hM) (hS.st.pick [] (by kernel_rfl)))
theorem zX {H : zB} {F : List qj} {w : World} {R : Ending → World → Prop} {kr : Unit → Prop} {kp : Value → Prop} (hG : Gl H) (K : Nat) (JO : Bool) (JN : Int)
    (hS : St w H [] F) (hm : (zr.m K JO JN).wp kr kp)
    (hret : ∀ (w : World), kr () → St w H [] F → R (.returned (.tuple ⟨[]⟩)) w)
    (hpan : ∀ v w, kp v → St w H [] F → R (.panicked [⟨v, false, false⟩]) w) :
    Calls Tryd.prog 23 ⟨[.bool JO, .int .i64 JN]⟩ w R := by
 refine enter Tryd.func23 rfl Tryd.ntmps23 rfl hS fun a w hS => ?_
 have hM := hm; clear hm
 rw [zr.m] at hM
 refine qn <| sM hS rfl fun hS => qs <| qI hS rfl hM (fun JP hM => ?_) (fun JP hM => ?_)
 ·refine zI ?_
  refine sM hS rfl fun hS => sO hS (jW ([.int .i64 JN]) [(0, 1)] Tryd.zeroValue45 Tryd.runUnderlying45 (by intro w; simp [Tryd.sizeOf28]) rfl rfl) rfl fun hS => sO hS (Jn rfl Tryd.runUnderlying45 rfl) rfl fun hS => Q0 hS rfl ?_
  exact ⟨hS.ev.defs, hpan _ _ (ZV hM) hS.st.frame⟩
 ·refine wp_skip ?_
  exact x1 (rs := []) hS rfl rfl (hret _ (qC hM) (hS.st.pick [] (by kernel_rfl)))
theorem je {H : zB} {F : List qj} {w : World} {R : Ending → World → Prop} {kr : ((List UInt8) × Int × Int) → Prop} {kp : Value → Prop} (hG : Gl H) (K : Nat) (JO : qq) (JN : Int) (JP : Int)
    (hS : St w H [] F) (hm : (xx.m K JO JN JP).wp kr kp)
    (hret : ∀ (JS : List UInt8) (JR : Int) (JW : Int) (w : World), kr (JS, JR, JW) → St w H [] F → R (.returned (.tuple ⟨[.agg ⟨[qr JS, .int .i64 JR]⟩, .int .i64 JW]⟩)) w) :
    Calls Tryd.prog 53 ⟨[.agg ⟨[qr JO.text_, .int .i64 JO.base_]⟩, .int .i64 JN, .int .i64 JP]⟩ w R := by
 refine enter Tryd.func53 rfl Tryd.ntmps53 rfl hS fun a w hS => ?_
 have hM := hm; clear hm
 rw [xx.m] at hM
 refine qn <| bx ([qr JO.text_, .int .i64 JO.base_]) hS rfl rfl rfl fun w JU J3 JQ hS => jY ([qr ([] : List UInt8), .int .i64 (0 : Int)]) hS Tryd.zeroValue47 rfl rfl fun w JV J4 JT hS => sA hS rfl fun hS => qs <| wp_seq <| qn <| sM hS rfl fun hS => sB hS rfl fun hS => sM hS rfl fun hS => xy 2 false 10 (b := (decide (JN < (0 : Int)))) (r := (decide (JP < (0 : Int)))) hS rfl rfl rfl rfl rfl rfl rfl (fun hb a w hS K hK => ?_) rfl fun a w hS => ?_
 ·refine qw hS rfl rfl rfl hb (mv rfl) rfl fun a w hS => ?_
  refine qw hS rfl rfl rfl hb (x6 rfl rfl rfl) rfl fun a w hS => ?_
  exact qN (hK _ _ (hS.up 2 rfl rfl))
 refine qs <| qI hS rfl hM (fun J0 hM => ?_) (fun J0 hM => ?_)
 ·refine wp_seq ?_
  refine zI <| sO hS (jW ([qr ([] : List UInt8), .int .i64 (0 : Int)]) [(0, 1), (1, 1)] Tryd.zeroValue47 Tryd.runUnderlying47 (by intro w; simp [Tryd.sizeOf3, Tryd.sizeOf9]) rfl rfl) rfl fun hS => jr 0 ([qr ([] : List UInt8), .int .i64 (0 : Int)]) ([qr ([] : List UInt8), .int .i64 (0 : Int)]) hS rfl rfl JT rfl rfl Tryd.sizeOf47 (by simp [Value.oneCell']) (Nat.le_of_ble_eq_true rfl) rfl fun w J5 JX hS => sA hS rfl fun hS => qs <| wp_ret <| qx ?_
  exact xX (vs := [.agg ⟨[qr ([] : List UInt8), .int .i64 (0 : Int)]⟩, .int .i64 (1 : Int)]) hS rfl (by exact ⟨uZ 0 ([qr ([] : List UInt8), .int .i64 (0 : Int)]) rfl JX rfl rfl rfl Tryd.isAgg47 Tryd.sizeOf47, Zf rfl, trivial⟩) (hret ([] : List UInt8) (0 : Int) (1 : Int) _ (qC hM) (hS.st.pick [] (by kernel_rfl)))
 ·refine wp_skip ?_
  refine qi <| wp_seq <| qn <| sM hS rfl fun hS => sO hS (qU rfl Tryd.runUnderlying47 rfl Tryd.sizeOf9 rfl) rfl fun hS => sO hS (zD 1 rfl JQ rfl rfl Tryd.isAgg9) rfl fun hS => sO hS (yi rfl Tryd.runUnderlying9) rfl fun hS => sB hS rfl fun hS => sM hS rfl fun hS => xy 7 false 20 (b := (decide (JN > (JO.text_.length : Int)))) (r := (decide (JP > (qM ((JO.text_.length : Int) - JN))))) hS rfl rfl rfl rfl rfl rfl rfl (fun hb a w hS K hK => ?_) rfl fun a w hS => ?_
  ·refine qw hS rfl rfl rfl hb (mv rfl) rfl fun a w hS => ?_
   refine qw hS rfl rfl rfl hb (qU rfl Tryd.runUnderlying47 rfl Tryd.sizeOf9 rfl) rfl fun a w hS => qw hS rfl rfl rfl hb (zD 1 rfl JQ rfl rfl Tryd.isAgg9) rfl fun a w hS => qw hS rfl rfl rfl hb (yi rfl Tryd.runUnderlying9) rfl fun a w hS => qw hS rfl rfl rfl hb (mv rfl) rfl fun a w hS => qw hS rfl rfl rfl hb (x6 rfl rfl rfl) rfl fun a w hS => qw hS rfl rfl rfl hb (x6 rfl rfl rfl) rfl fun a w hS => ?_
   exact qN (hK _ _ (hS.up 7 rfl rfl))
  refine qs <| qI hS rfl hM (fun J1 hM => ?_) (fun J1 hM => ?_)
  ·refine wp_seq ?_
   refine zI <| sO hS (jW ([qr ([] : List UInt8), .int .i64 (0 : Int)]) [(0, 1), (1, 1)] Tryd.zeroValue47 Tryd.runUnderlying47 (by intro w; simp [Tryd.sizeOf3, Tryd.sizeOf9]) rfl rfl) rfl fun hS => jr 0 ([qr ([] : List UInt8), .int .i64 (0 : Int)]) ([qr ([] : List UInt8), .int .i64 (0 : Int)]) hS rfl rfl JT rfl rfl Tryd.sizeOf47 (by simp [Value.oneCell']) (Nat.le_of_ble_eq_true rfl) rfl fun w J6 JY hS => sA hS rfl fun hS => qs <| wp_ret <| qx ?_
   exact xX (vs := [.agg ⟨[qr ([] : List UInt8), .int .i64 (0 : Int)]⟩, .int .i64 (2 : Int)]) hS rfl (by exact ⟨uZ 0 ([qr ([] : List UInt8), .int .i64 (0 : Int)]) rfl JY rfl rfl rfl Tryd.isAgg47 Tryd.sizeOf47, Zf rfl, trivial⟩) (hret ([] : List UInt8) (0 : Int) (2 : Int) _ (qC hM) (hS.st.pick [] (by kernel_rfl)))
  ·refine wp_skip ?_
   refine qi <| wp_seq ?_
   obtain ⟨J2, hM⟩ := qL hM
   refine qR (vals := [some (qp JU 0), some (qr JO.text_), some (.int .i64 JN), some (.int .i64 JN), some (.int .i64 JP), some (.int .i64 (qM (JN + JP))), some (qr (sub JO.text_ JN (qM (JN + JP)))), some (qp JU 1), some (.int .i64 JO.base_), some (.int .i64 JN), some (.int .i64 (qM (JO.base_ + JN))), some (.agg ⟨[qr (sub JO.text_ JN (qM (JN + JP))), .int .i64 (qM (JO.base_ + JN))]⟩), none, none]) hS xe rfl ?_
   intro l w ho hcl hA hst
   refine yA hA hst ho hcl zU xf 12 [0, 1, 2, 3, 4, 5, 6, 7, 8, 9, 10, 11] rfl rfl rfl rfl rfl (by exact ⟨nQ rfl (by exact qH (qU rfl Tryd.runUnderlying47 rfl Tryd.sizeOf9 rfl) rfl), nQ rfl (by exact qH (zD 1 rfl JQ rfl rfl Tryd.isAgg9) rfl), nM rfl, nM rfl, nM rfl, nB rfl, nQ rfl (by exact qH (QJ rfl Tryd.runUnderlying9 (Xy rfl) (QQ rfl) J2) rfl), nQ rfl (by exact qH (qU rfl Tryd.runUnderlying47 rfl Tryd.sizeOf3 rfl) rfl), nQ rfl (by exact qH (zD 1 rfl JQ rfl rfl Tryd.isAgg3) rfl), nM rfl, nB rfl, nQ rfl (by exact qH (jW ([qr (sub JO.text_ JN (qM (JN + JP))), .int .i64 (qM (JO.base_ + JN))]) [(0, 1), (1, 1)] Tryd.zeroValue47 Tryd.runUnderlying47 (by intro w; simp [Tryd.sizeOf3, Tryd.sizeOf9]) rfl rfl) rfl), trivial⟩) fun D l a w ho hcl hav hpre hm hE hk hA hst => ?_
   have hS := (Ss.mk hE hst).env2 (e' := [(6, qp JV 0), (41, .agg ⟨[qr (sub JO.text_ JN (qM (JN + JP))), .int .i64 (qM (JO.base_ + JN))]⟩)]) ⟨rfl, rfl, trivial⟩
   refine qy rfl <| jr 0 ([qr (sub JO.text_ JN (qM (JN + JP))), .int .i64 (qM (JO.base_ + JN))]) ([qr (sub JO.text_ JN (qM (JN + JP))), .int .i64 (qM (JO.base_ + JN))]) hS rfl rfl JT rfl rfl Tryd.sizeOf47 (by simp [Value.oneCell']) (Nat.le_of_ble_eq_true rfl) rfl fun w J7 JZ hS => qs ?_
   replace hst := hS.st
   obtain ⟨hcl, hmust, hav2, hA⟩ := Yb (vals' := [some (qp JU 0), some (qr JO.text_), some (.int .i64 JN), some (.int .i64 JN), some (.int .i64 JP), some (.int .i64 (qM (JN + JP))), some (qr (sub JO.text_ JN (qM (JN + JP)))), some (qp JU 1), some (.int .i64 JO.base_), some (.int .i64 JN), some (.int .i64 (qM (JO.base_ + JN))), some (.agg ⟨[qr (sub JO.text_ JN (qM (JN + JP))), .int .i64 (qM (JO.base_ + JN))]⟩), some undef, some (.int .i64 (0 : Int))]) 12 [(0, 12), (1, 12), (2, 12), (3, 12), (4, 12), (5, 12), (6, 12), (7, 12), (8, 12), (9, 12), (10, 12), (11, 12)] hA hcl hav hm hpre rfl rfl rfl rfl rfl
   clear hm hav
   refine xL hA hst ho hcl hmust [13] rfl rfl rfl (by exact ⟨nA rfl, trivial⟩) fun a w hS => ?_
   replace hS := hS.env2 (e' := [(6, qp JV 0), (7, .int .i64 (0 : Int))]) ⟨rfl, rfl, trivial⟩
   refine qi <| wp_ret ?_
   exact xX (vs := [.agg ⟨[qr (sub JO.text_ JN (qM (JN + JP))), .int .i64 (qM (JO.base_ + JN))]⟩, .int .i64 (0 : Int)]) hS rfl (by exact ⟨uZ 0 ([qr (sub JO.text_ JN (qM (JN + JP))), .int .i64 (qM (JO.base_ + JN))]) rfl JZ rfl rfl rfl Tryd.isAgg47 Tryd.sizeOf47, Zf rfl, trivial⟩) (hret (sub JO.text_ JN (qM (JN + JP))) (qM (JO.base_ + JN)) (0 : Int) _ (qC hM) (hS.st.pick [] (by kernel_rfl)))
theorem v2 {H : zB} {F : List qj} {w : World} {R : Ending → World → Prop} {kr : Unit → Prop} {kp : Value → Prop} (hG : Gl H) (K : Nat) (JN : Int)
    (hS : St w H [] F) (hm : (ve.m K JN).wp kr kp)
    (hret : ∀ (w : World), kr () → St w H [] F → R (.returned (.tuple ⟨[]⟩)) w)
    (hpan : ∀ v w, kp v → St w H [] F → R (.panicked [⟨v, false, false⟩]) w) :
    Calls Tryd.prog 54 ⟨[.int .i64 JN]⟩ w R := by
 refine enter Tryd.func54 rfl Tryd.ntmps54 rfl hS fun a w hS => ?_
 have hM := hm; clear hm
 rw [ve.m] at hM
 refine qn <| sM hS rfl fun hS => sB hS rfl fun hS => qs <| qI hS rfl hM (fun JO hM => ?_) (fun JO hM => ?_)
 ·refine zI ?_
  refine sM hS rfl fun hS => sO hS (jW ([.int .i64 JN]) [(0, 1)] Tryd.zeroValue45 Tryd.runUnderlying45 (by intro w; simp [Tryd.sizeOf28]) rfl rfl) rfl fun hS => sO hS (Jn rfl Tryd.runUnderlying45 rfl) rfl fun hS => Q0 hS rfl ?_
  exact ⟨hS.ev.defs, hpan _ _ (ZV hM) hS.st.frame⟩
 ·refine wp_skip ?_
  exact x1 (rs := []) hS rfl rfl (hret _ (qC hM) (hS.st.pick [] (by kernel_rfl)))
theorem xD {H : zB} {F : List qj} {w : World} {R : Ending → World → Prop} {kr : ((List UInt8) × Int) → Prop} {kp : Value → Prop} (hG : Gl H) (K : Nat) (JN : zh) (JQ : Int) (JR : Int)
    (hS : St w H [] F) (hm : (q6.m K JN JQ JR).wp kr kp)
    (hret : ∀ (JZ : Nat) (JV : List UInt8) (JU : Int) (J0 : qj) (w : World), kr (JV, JU) → (zH J0 JZ ([qr JV, .int .i64 JU, .int .i64 (0 : Int)]) 64) → St w H [J0] F → R (.returned (qp JZ 0)) w)
    (hpan : ∀ v w, kp v → St w H [] F → R (.panicked [⟨v, false, false⟩]) w) :
    Calls Tryd.prog 21 ⟨[.agg ⟨[qr JN.whole_.text_, .int .i64 JN.whole_.base_]⟩, .int .u64 JQ, .int .u64 JR]⟩ w R := by
 refine enter Tryd.func21 rfl Tryd.ntmps21 rfl hS fun a w hS => ?_
 have hM := hm; clear hm
 rw [q6.m] at hM
 refine qn <| bx ([qr JN.whole_.text_, .int .i64 JN.whole_.base_]) hS rfl rfl rfl fun w J4 JT JW hS => sA hS rfl fun hS => qs <| qn <| sM hS rfl fun hS => sO hS (qU rfl Tryd.runUnderlying50 rfl Tryd.sizeOf47 rfl) rfl fun hS => sO hS (xR 0 rfl JW rfl ([qr JN.whole_.text_, .int .i64 JN.whole_.base_]) rfl rfl Tryd.isAgg47 Tryd.sizeOf47) rfl fun hS => ql hS rfl Tryd.call52 (jd hG K JN.whole_ (hS.st.part 0 [0] (by kernel_rfl)) (qf hM) (fun J8 w hM  hst => qk hS.ev hst.appF rfl fun hS => ?_))
 replace hS : Ss _ _ _ H [JT] F _ _ := hS
 refine sO hS (yM rfl Tryd.runUnderlying3 Tryd.runUnderlying23) rfl fun hS => sB hS rfl fun hS => sM hS rfl fun hS => zR (fun a w => ∃ (JX : Bool), Ss 39 [] [(1, .int .u64 JQ), (2, .int .u64 JR), (3, qp J4 0), (22, .bool JX)] H [JT] F a w ∧ (q6.j1 K JN JQ JR JX).wp kr kp) 7 (fun Vb JY => ?_) ?_
 ·refine um (b := (decide (JQ > (wr .u64 J8)))) hM (fun JS hM => ?_) (fun JS hM => ?_)
  ·replace hS := hS.re 14 (v := .bool true) rfl (congrArg Value.bool JS)
   replace hS := hS.re 15 (v := .bool true) rfl (congrArg Value.bool JS)
   refine yv 6 hS rfl fun a w hS => sO hS (pk rfl rfl rfl) rfl fun hS => qN <| qi ?_
   exact JY _ _ ⟨true, hS.to [0] (by kernel_rfl) ⟨rfl, rfl, rfl, rfl, trivial⟩, hM⟩
  ·replace hS := hS.re 14 (v := .bool false) rfl (congrArg Value.bool JS)
   replace hS := hS.re 15 (v := .bool false) rfl (congrArg Value.bool JS)
   refine qw hS rfl rfl rfl rfl (mv rfl) rfl fun a w hS => qw hS rfl rfl rfl rfl (qU rfl Tryd.runUnderlying50 rfl Tryd.sizeOf47 rfl) rfl fun a w hS => qw hS rfl rfl rfl rfl (xR 0 rfl JW rfl ([qr JN.whole_.text_, .int .i64 JN.whole_.base_]) rfl rfl Tryd.isAgg47 Tryd.sizeOf47) rfl fun a w hS => z5 hS rfl rfl rfl rfl <| ql hS rfl Tryd.call52 (jd hG K JN.whole_ (hS.st.part 0 [0] (by kernel_rfl)) (qf hM) (fun J9 w hM  hst => qk hS.ev hst.appF rfl fun hS => ?_))
   replace hS : Ss _ _ _ H [JT] F _ _ := hS
   refine qw hS rfl rfl rfl rfl (yM rfl Tryd.runUnderlying3 Tryd.runUnderlying23) rfl fun a w hS => qw hS rfl rfl rfl rfl (x6 rfl rfl rfl) rfl fun a w hS => sO hS (pk rfl rfl rfl) rfl fun hS => qN <| qi ?_
   exact JY _ _ ⟨(decide (JR > (wr .u64 J9))), hS.to [0] (by kernel_rfl) ⟨rfl, rfl, rfl, rfl, trivial⟩, hM⟩
 ·intro a w hI
  obtain ⟨JX, hS, hM⟩ := hI
  rw [q6.j1] at hM
  refine ql hS rfl Tryd.call23 (zX hG K JX (2 : Int) (hS.st.part 0 [0] (by kernel_rfl)) (qf hM) (fun  w hM  hst => qk hS.ev hst.appF rfl fun hS => ?_) (fun v w hk hst => zg (qv (⟨hS.ev.defs, hpan _ _ hk hst.appF.frame⟩))))
  replace hS : Ss _ _ _ H [JT] F _ _ := hS
  refine qs <| qn <| sO hS (qU rfl Tryd.runUnderlying50 rfl Tryd.sizeOf47 rfl) rfl fun hS => sO hS (xR 0 rfl JW rfl ([qr JN.whole_.text_, .int .i64 JN.whole_.base_]) rfl rfl Tryd.isAgg47 Tryd.sizeOf47) rfl fun hS => sM hS rfl fun hS => sO hS (yM rfl Tryd.runUnderlying23 Tryd.runUnderlying3) rfl fun hS => sM hS rfl fun hS => sO hS (yM rfl Tryd.runUnderlying23 Tryd.runUnderlying3) rfl fun hS => ql hS rfl Tryd.call53 (je hG K JN.whole_ (wr .i64 JQ) (wr .i64 JR) (hS.st.part 0 [0] (by kernel_rfl)) (qf hM) (fun JP JO Va w hM  hst => qk hS.ev hst.appF rfl fun hS => ?_))
  replace hS : Ss _ _ _ H [JT] F _ _ := hS
  refine sM hS rfl fun hS => sO hS (ex rfl rfl) rfl fun hS => sO hS (ex rfl rfl) rfl fun hS => jY ([qr ([] : List UInt8), .int .i64 (0 : Int)]) hS Tryd.zeroValue47 rfl rfl fun w Vc Vd J1 hS => jr 0 ([qr JP, .int .i64 JO]) ([qr JP, .int .i64 JO]) hS rfl rfl J1 rfl rfl Tryd.sizeOf47 (by simp [Value.oneCell']) (Nat.le_of_ble_eq_true rfl) rfl fun w J6 J2 hS => sA hS rfl fun hS => qs <| qn <| sM hS rfl fun hS => ql hS rfl Tryd.call54 (v2 hG K Va (hS.st.part 0 [0, 1] (by kernel_rfl)) (qf hM) (fun  w hM  hst => qk hS.ev hst.appF rfl fun hS => ?_) (fun v w hk hst => zg (qv (⟨hS.ev.defs, hpan _ _ hk hst.appF.frame⟩))))
  replace hS : Ss _ _ _ H [J6, JT] F _ _ := hS
  refine qs <| qn <| sO hS (xR 0 rfl J2 rfl ([qr JP, .int .i64 JO]) rfl rfl Tryd.isAgg47 Tryd.sizeOf47) rfl fun hS => sO hS (jW ([qr JP, .int .i64 JO, .int .i64 (0 : Int)]) [(0, 2), (2, 1)] Tryd.zeroValue64 Tryd.runUnderlying64 (by intro w; simp [Tryd.sizeOf3, Tryd.sizeOf47]) rfl rfl) rfl fun hS => bx ([qr JP, .int .i64 JO, .int .i64 (0 : Int)]) hS rfl rfl rfl fun w J5 J7 J3 hS => sA hS rfl fun hS => qs <| wp_ret ?_
  exact qT (rs := [6]) hS rfl rfl (hret J5 JP JO J7 _ (qC hM) J3 (hS.st.pick [0] (by kernel_rfl)))
theorem yo {H : zB} {F : List qj} {w : World} {R : Ending → World → Prop} {kr : Unit → Prop} {kp : Value → Prop} (hG : Gl H) (K : Nat) (JN : qq)
    (hS : St w H [] F) (hm : (z6.m K JN).wp kr kp)
    (hret : ∀ (w : World), kr () → St w H [] F → R (.returned (qr JN.text_)) w) :
    Calls Tryd.prog 25 ⟨[.agg ⟨[qr JN.text_, .int .i64 JN.base_]⟩]⟩ w R := by
 refine enter Tryd.func25 rfl Tryd.ntmps25 rfl hS fun a w hS => ?_
 have hM := hm; clear hm
 rw [z6.m] at hM
 refine qn <| bx ([qr JN.text_, .int .i64 JN.base_]) hS rfl rfl rfl fun w JP JQ JO hS => sA hS rfl fun hS => qs <| qn <| sO hS (qU rfl Tryd.runUnderlying47 rfl Tryd.sizeOf9 rfl) rfl fun hS => sO hS (zD 0 rfl JO rfl rfl Tryd.isAgg9) rfl fun hS => sA hS rfl fun hS => qs <| wp_ret ?_
 exact qT (rs := [2]) hS rfl rfl (hret _ (qC hM) (hS.st.pick [] (by kernel_rfl)))
theorem jf {H : zB} {F : List qj} {w : World} {R : Ending → World → Prop} {kr : (Int × Int) → Prop} {kp : Value → Prop} (hG : Gl H) (K : Nat) (JR : qq) (JS : Int) (JP : Int)
    (hS : St w H [] F) (hm : (qQ.m K JR JS JP).wp kr kp)
    (hret : ∀ (J1 : Int) (J2 : Int) (w : World), kr (J1, J2) → St w H [] F → R (.returned (.tuple ⟨[.int .u64 J1, .int .i64 J2]⟩)) w) :
    Calls Tryd.prog 92 ⟨[.agg ⟨[qr JR.text_, .int .i64 JR.base_]⟩, .int .i64 JS, .int .i64 JP, .bool false]⟩ w R := by
 refine enter Tryd.func92 rfl Tryd.ntmps92 rfl hS fun a w hS => ?_
 have hM := hm; clear hm
 rw [qQ.m] at hM
 refine qn <| bx ([qr JR.text_, .int .i64 JR.base_]) hS rfl rfl rfl fun w Vd JW J3 hS => sA hS rfl fun hS => sA hS rfl fun hS => qs <| wp_seq <| qn <| sM hS rfl fun hS => ql hS rfl Tryd.call98 (jL hG K JP (hS.st.part 0 [0] (by kernel_rfl)) (qf hM) (fun Vf w hM  hst => qk hS.ev hst.appF rfl fun hS => ?_))
 replace hS : Ss _ _ _ H [JW] F _ _ := hS
 refine sO hS (un rfl rfl) rfl fun hS => qs <| qI hS rfl hM (fun J6 hM => ?_) (fun J6 hM => ?_)
 ·refine wp_seq ?_
  refine zI <| sA hS rfl fun hS => sA hS rfl fun hS => qs <| wp_ret <| qx ?_
  exact qT (rs := [8, 9]) hS rfl rfl (hret (0 : Int) (1 : Int) _ (qC hM) (hS.st.pick [] (by kernel_rfl)))
 ·refine wp_skip ?_
  refine qi <| qn <| sO hS (xR 0 rfl J3 rfl ([qr JR.text_, .int .i64 JR.base_]) rfl rfl Tryd.isAgg47 Tryd.sizeOf47) rfl fun hS => sO hS (Jm rfl rfl) rfl fun hS => sA hS rfl fun hS => qs <| qn <| sM hS rfl fun hS => sM hS rfl fun hS => sM hS rfl fun hS => uU hS rfl rfl Tryd.call53 (je hG K JR JS JP (hS.st.part 0 [0] (by kernel_rfl)) (qf hM) (fun JO JT Vb w hM  hst => qk hS.ev hst.appF rfl fun hS => ?_))
  replace hS : Ss _ _ _ H [JW] F _ _ := hS
  refine sM hS rfl fun hS => sO hS (ex rfl rfl) rfl fun hS => sO hS (ex rfl rfl) rfl fun hS => jY ([qr ([] : List UInt8), .int .i64 (0 : Int)]) hS Tryd.zeroValue47 rfl rfl fun w JV Ve J4 hS => jr 0 ([qr JO, .int .i64 JT]) ([qr JO, .int .i64 JT]) hS rfl rfl J4 rfl rfl Tryd.sizeOf47 (by simp [Value.oneCell']) (Nat.le_of_ble_eq_true rfl) rfl fun w JX JY hS => sA hS rfl fun hS => qs <| wp_seq <| qn <| sM hS rfl fun hS => sB hS rfl fun hS => qs <| qI hS rfl hM (fun J7 hM => ?_) (fun J7 hM => ?_)
  ·refine wp_seq ?_
   refine zI <| sM hS rfl fun hS => sA hS rfl fun hS => sA hS rfl fun hS => qs <| wp_ret <| qx ?_
   exact qT (rs := [8, 9]) hS rfl rfl (hret (0 : Int) Vb _ (qC hM) (hS.st.pick [] (by kernel_rfl)))
  ·refine wp_skip ?_
   refine qi <| qn <| sM hS rfl fun hS => sM hS rfl fun hS => ql hS rfl Tryd.call100 (y2 hG K JP (hS.st.part 0 [0, 1] (by kernel_rfl)) (qf hM) (fun  w hM  hst => qk hS.ev hst.appF rfl fun hS => ?_))
   replace hS : Ss _ _ _ H [JX, JW] F _ _ := hS
   refine sA hS rfl fun hS => qs <| qn <| sA hS rfl fun hS => qs <| wp_seq <| qn <| sM hS rfl fun hS => sM hS rfl fun hS => qs <| yp <| zz (fun J0 a w => ∃ (JQ : Int) (JN : Int), Ss 52 [] [(11, qp JV 0), (13, Qz 109 [] []), (14, .int .u64 JQ), (34, .int .i64 JP), (35, .int .i64 JN)] H [JX] F a w ∧ (qQ.l1 K JP JO J0 JQ JN).wp kr kp) K ?_ ?_ ?_
   ·exact ⟨(0 : Int), (0 : Int), hS.to [0] (by kernel_rfl) ⟨rfl, rfl, rfl, rfl, rfl, trivial⟩, hM⟩
   ·intro a w hI; obtain ⟨_, _, _, hM⟩ := hI; exact zA hM
   ·intro J0 a w hI Vc J5
    obtain ⟨JQ, JN, hS, hM⟩ := hI
    rw [qQ.l1] at hM
    refine qn <| sB hS rfl fun hS => qs <| wp_seq <| qI hS rfl hM (fun J8 hM => ?_) (fun J8 hM => ?_)
    ·refine wp_skip ?_
     refine qi <| wp_seq <| yp <| qn <| sM hS rfl fun hS => sA hS rfl fun hS => qs <| qR (vals := [some (.int .u64 JQ), some (qp JV 0), some (qr JO), some (Qz 109 [] []), some (.int .i64 JN), none, none, none, some (.int .i64 JN), some (.int .i64 (qM ((8 : Int) * JN))), none, none, none]) hS xe rfl ?_
     intro l w ho hcl hA hst
     refine yA hA hst ho hcl zU xf 5 [0, 1, 2, 3, 4, 8, 9] rfl rfl rfl rfl rfl (by exact ⟨nM rfl, nQ rfl (by exact qH (qU rfl Tryd.runUnderlying47 rfl Tryd.sizeOf9 rfl) rfl), nQ rfl (by exact qH (zD 0 rfl JY rfl rfl Tryd.isAgg9) rfl), nM rfl, nM rfl, nM rfl, nB rfl, trivial⟩) fun D l a w ho hcl hav hpre hm hE hk hA hst => ?_
     have hS := (Ss.mk hE hst).env2 (e' := [(41, Qz 109 [] []), (42, .int .i64 JN)]) ⟨rfl, rfl, trivial⟩
     refine qy rfl <| uU hS rfl rfl Tryd.call109 (jM hG K JN (hS.st.part 0 [0] (by kernel_rfl)) (qf hM) (fun  w hM  hst => qk hS.ev hst.appF rfl fun hS => ?_))
     replace hS : Ss _ _ _ H [JX] F _ _ := hS
     refine qs ?_
     replace hst := hS.st
     obtain ⟨J9, hM⟩ := qL hM
     obtain ⟨Va, hM⟩ := qL hM
     obtain ⟨JU, JZ⟩ : ∃ x, x = (Yc .u64 JQ (Qc .u64 (wr .u64 ((rd JO JN).toNat : Int)) (qM ((8 : Int) * JN)))) := ⟨_, rfl⟩
     replace hM := qO JZ hM
     obtain ⟨hcl, hmust, hav2, hA⟩ := dn (vals' := [some (.int .u64 JQ), some (qp JV 0), some (qr JO), some (Qz 109 [] []), some (.int .i64 JN), some (.int .i64 JN), some (.int .u8 ((rd JO JN).toNat : Int)), some (.int .u64 (wr .u64 ((rd JO JN).toNat : Int))), some (.int .i64 JN), some (.int .i64 (qM ((8 : Int) * JN))), some (.int .u64 (Qc .u64 (wr .u64 ((rd JO JN).toNat : Int)) (qM ((8 : Int) * JN)))), some (.int .u64 (Yc .u64 JQ (Qc .u64 (wr .u64 ((rd JO JN).toNat : Int)) (qM ((8 : Int) * JN))))), some (.int .u64 JU)]) 5 [(3, 5), (4, 5)] hA hcl hav hm hpre hk rfl rfl rfl rfl rfl rfl rfl
     clear hm hav
     refine xL hA hst ho hcl hmust [0, 1, 2, 6, 7, 8, 9, 10, 11, 12] rfl rfl rfl (by exact ⟨nM rfl, nQ rfl (by exact qH (qU rfl Tryd.runUnderlying47 rfl Tryd.sizeOf9 rfl) rfl), nQ rfl (by exact qH (zD 0 rfl JY rfl rfl Tryd.isAgg9) rfl), nQ rfl (by exact qH (Q9 rfl rfl Tryd.runUnderlying9 J9) rfl), nQ rfl (by exact qH (yM rfl Tryd.runUnderlying5 Tryd.runUnderlying23) rfl), nM rfl, nB rfl, nQ rfl (by exact qH (shl rfl rfl Va) rfl), nB rfl, nQ rfl (by exact qH (xK rfl) (congrArg (Value.int .u64) JZ.symm)), trivial⟩) fun a w hS => ?_
     replace hS := hS.env2 (e' := [(11, qp JV 0), (13, Qz 109 [] []), (14, .int .u64 JU), (34, .int .i64 JP), (35, .int .i64 JN)]) ⟨rfl, rfl, rfl, rfl, rfl, trivial⟩
     refine xr (qi ?_)
     refine zI <| sB hS rfl fun hS => sM hS rfl fun hS => qN <| qi ?_
     exact J5 _ _ ⟨JU, (qM (JN + (1 : Int))), hS.to [0] (by kernel_rfl) ⟨rfl, rfl, rfl, rfl, rfl, trivial⟩, hM⟩
    ·refine wp_exit ?_
     refine qK (qK (zi (qi ?_)))
     refine qn <| sM hS rfl fun hS => sA hS rfl fun hS => sA hS rfl fun hS => qs <| wp_ret ?_
     exact qT (rs := [8, 9]) hS rfl rfl (hret JQ (0 : Int) _ (qC hM) (hS.st.pick [] (by kernel_rfl)))
theorem xV {H : zB} {F : List qj} {w : World} {R : Ending → World → Prop} {kr : (Int × Int) → Prop} {kp : Value → Prop} (hG : Gl H) (K : Nat) (JN : qh) (JO : Int) (JP : Nat) (JU : qj) (JS : zH JU JP ([qr JN.Window_.text_, .int .i64 JN.Window_.base_, .int .i64 JN.next_]) 64)
    (hS : St w H [JU] F) (hm : (zL.m K JN JO).wp kr kp)
    (hret : ∀ (JW : Int) (JT : Int) (JV : qj) (w : World), kr (JW, JT) → (zH JV JP ([qr JN.Window_.text_, .int .i64 JN.Window_.base_, .int .i64 JT]) 64) → St w H [JV] F → R (.returned (.int .u64 JW)) w)
    (hpan : ∀ v w, kp v → St w H [] F → R (.panicked [⟨v, false, false⟩]) w) :
    Calls Tryd.prog 77 ⟨[qp JP 0, .int .i64 JO]⟩ w R := by
 refine enter Tryd.func77 rfl Tryd.ntmps77 rfl hS fun a w hS => ?_
 have hM := hm; clear hm
 rw [zL.m] at hM
 refine qn <| sA hS rfl fun hS => qs <| wp_seq <| qR (vals := [some (qp JP 0), some (qp JP 0), some (qp JP 0), some (.agg ⟨[qr JN.Window_.text_, .int .i64 JN.Window_.base_]⟩), some (qp JP 0), some (qp JP 0), some (qp JP 2), some (.int .i64 JN.next_), some (.int .i64 JO), none, none, none, none, none, none]) hS xe rfl ?_
 intro l w ho hcl hA hst
 refine yA hA hst ho hcl zU xf 9 [0, 1, 2, 3, 4, 5, 6, 7, 8] rfl rfl rfl rfl rfl (by exact ⟨nM rfl, nQ rfl (by exact qH (xm rfl) rfl), nQ rfl (by exact qH (qU rfl Tryd.runUnderlying64 rfl Tryd.sizeOf47 rfl) rfl), nQ rfl (by exact qH (xR 0 rfl JS rfl ([qr JN.Window_.text_, .int .i64 JN.Window_.base_]) rfl rfl Tryd.isAgg47 Tryd.sizeOf47) rfl), nM rfl, nQ rfl (by exact qH (xm rfl) rfl), nQ rfl (by exact qH (qU rfl Tryd.runUnderlying64 rfl Tryd.sizeOf3 rfl) rfl), nQ rfl (by exact qH (zD 0 rfl JS rfl rfl Tryd.isAgg3) rfl), nM rfl, trivial⟩) fun D l a w ho hcl hav hpre hm hE hk hA hst => ?_
 have hS := (Ss.mk hE hst).env2 (e' := [(11, .agg ⟨[qr JN.Window_.text_, .int .i64 JN.Window_.base_]⟩), (15, .int .i64 JN.next_), (16, .int .i64 JO)]) ⟨rfl, rfl, rfl, trivial⟩
 refine qy rfl <| ql hS rfl Tryd.call92 (jf hG K JN.Window_ JN.next_ JO (hS.st.part 0 [0] (by kernel_rfl)) (qf hM) (fun JQ JR w hM  hst => qk hS.ev hst.appF rfl fun hS => ?_))
 replace hS : Ss _ _ _ H [JU] F _ _ := hS
 refine qs ?_
 replace hst := hS.st
 obtain ⟨hcl, hmust, hav2, hA⟩ := dn (vals' := [some (qp JP 0), some (qp JP 0), some (qp JP 0), some (.agg ⟨[qr JN.Window_.text_, .int .i64 JN.Window_.base_]⟩), some (qp JP 0), some (qp JP 0), some (qp JP 2), some (.int .i64 JN.next_), some (.int .i64 JO), some (.tuple ⟨[.int .u64 JQ, .int .i64 JR]⟩), some (.tuple ⟨[.int .u64 JQ, .int .i64 JR]⟩), some (.int .u64 JQ), some (.int .i64 JR), some (.int .u64 JQ), some (.int .i64 JR)]) 9 [(3, 9), (7, 9), (8, 9), (2, 3), (6, 7), (1, 2), (5, 6), (0, 1), (4, 5)] hA hcl hav hm hpre hk rfl rfl rfl rfl rfl rfl rfl
 clear hm hav
 refine xL hA hst ho hcl hmust [10, 11, 12, 13, 14] rfl rfl rfl (by exact ⟨nM rfl, nQ rfl (by exact qH (ex rfl rfl) rfl), nQ rfl (by exact qH (ex rfl rfl) rfl), nA rfl, nA rfl, trivial⟩) fun a w hS => ?_
 replace hS := hS.env2 (e' := [(0, qp JP 0), (1, .int .i64 JO), (5, .int .u64 JQ), (6, .int .i64 JR)]) ⟨rfl, rfl, rfl, rfl, trivial⟩
 refine qi <| qn <| sM hS rfl fun hS => ql hS rfl Tryd.call54 (v2 hG K JR (hS.st.part 0 [0] (by kernel_rfl)) (qf hM) (fun  w hM  hst => qk hS.ev hst.appF rfl fun hS => ?_) (fun v w hk hst => zg (qv (⟨hS.ev.defs, hpan _ _ hk hst.appF.frame⟩))))
 replace hS : Ss _ _ _ H [JU] F _ _ := hS
 refine qs <| qn <| sM hS rfl fun hS => sO hS (xm rfl) rfl fun hS => sO hS (qU rfl Tryd.runUnderlying64 rfl Tryd.sizeOf3 rfl) rfl fun hS => sO hS (zD 0 rfl JS rfl rfl Tryd.isAgg3) rfl fun hS => sM hS rfl fun hS => sB hS rfl fun hS => sO hS (xm rfl) rfl fun hS => sO hS (qU rfl Tryd.runUnderlying64 rfl Tryd.sizeOf3 rfl) rfl fun hS => y3 0 ([qr JN.Window_.text_, .int .i64 JN.Window_.base_, .int .i64 (qM (JN.next_ + JO))]) hS rfl rfl JS rfl rfl rfl rfl Tryd.sizeOf3 fun w JY JX hS => qs <| qn <| sM hS rfl fun hS => sA hS rfl fun hS => qs <| wp_ret ?_
 exact qT (rs := [4]) hS rfl rfl (hret JQ (qM (JN.next_ + JO)) JY _ (qC hM) JX (hS.st.pick [0] (by kernel_rfl)))
theorem z3 {H : zB} {F : List qj} {w : World} {R : Ending → World → Prop} {kr : (Int × Int) → Prop} {kp : Value → Prop} (hG : Gl H) (K : Nat) (JN : qh) (JP : Nat) (JQ : qj) (JV : zH JQ JP ([qr JN.Window_.text_, .int .i64 JN.Window_.base_, .int .i64 JN.next_]) 64)
    (hS : St w H [JQ] F) (hm : (zt.m K JN).wp kr kp)
    (hret : ∀ (JU : Int) (JO : Int) (JT : qj) (w : World), kr (JU, JO) → (zH JT JP ([qr JN.Window_.text_, .int .i64 JN.Window_.base_, .int .i64 JO]) 64) → St w H [JT] F → R (.returned (.int .i64 JU)) w)
    (hpan : ∀ v w, kp v → St w H [] F → R (.panicked [⟨v, false, false⟩]) w) :
    Calls Tryd.prog 49 ⟨[qp JP 0]⟩ w R := by
 refine enter Tryd.func49 rfl Tryd.ntmps49 rfl hS fun a w hS => ?_
 have hM := hm; clear hm
 rw [zt.m] at hM
 refine qn <| sA hS rfl fun hS => qs <| qn <| sM hS rfl fun hS => ql hS rfl Tryd.call77 (xV hG K JN (2 : Int) JP JQ JV (hS.st.part 1 [0] (by kernel_rfl)) (qf hM) (fun JY JR JS w hM JW hst => qk hS.ev hst.appF rfl fun hS => ?_) (fun v w hk hst => zg (qv (⟨hS.ev.defs, hpan _ _ hk hst.appF.frame⟩))))
 replace hS : Ss _ _ _ H [JS] F _ _ := hS
 refine sO hS (yM rfl Tryd.runUnderlying23 Tryd.runUnderlying3) rfl fun hS => zO (v := Value.int .i64) (x0 := (wr .i64 JY)) hS (xK rfl) rfl fun JX a w hz hS => ?_
 have hM := qO hz hM; clear hz
 refine qs <| wp_ret ?_
 exact qT (rs := [2]) hS rfl rfl (hret JX JR JS _ (qC hM) JW (hS.st.pick [0] (by kernel_rfl)))
theorem z4 {H : zB} {F : List qj} {w : World} {R : Ending → World → Prop} {kr : (Int × Int) → Prop} {kp : Value → Prop} (hG : Gl H) (K : Nat) (JN : qh) (JP : Nat) (JQ : qj) (JV : zH JQ JP ([qr JN.Window_.text_, .int .i64 JN.Window_.base_, .int .i64 JN.next_]) 64)
    (hS : St w H [JQ] F) (hm : (zC.m K JN).wp kr kp)
    (hret : ∀ (JU : Int) (JO : Int) (JT : qj) (w : World), kr (JU, JO) → (zH JT JP ([qr JN.Window_.text_, .int .i64 JN.Window_.base_, .int .i64 JO]) 64) → St w H [JT] F → R (.returned (.int .i64 JU)) w)
    (hpan : ∀ v w, kp v → St w H [] F → R (.panicked [⟨v, false, false⟩]) w) :
    Calls Tryd.prog 50 ⟨[qp JP 0]⟩ w R := by
 refine enter Tryd.func50 rfl Tryd.ntmps50 rfl hS fun a w hS => ?_
 have hM := hm; clear hm
 rw [zC.m] at hM
 refine qn <| sA hS rfl fun hS => qs <| qn <| sM hS rfl fun hS => ql hS rfl Tryd.call77 (xV hG K JN (4 : Int) JP JQ JV (hS.st.part 1 [0] (by kernel_rfl)) (qf hM) (fun JY JR JS w hM JW hst => qk hS.ev hst.appF rfl fun hS => ?_) (fun v w hk hst => zg (qv (⟨hS.ev.defs, hpan _ _ hk hst.appF.frame⟩))))
 replace hS : Ss _ _ _ H [JS] F _ _ := hS
 refine sO hS (yM rfl Tryd.runUnderlying23 Tryd.runUnderlying3) rfl fun hS => zO (v := Value.int .i64) (x0 := (wr .i64 JY)) hS (xK rfl) rfl fun JX a w hz hS => ?_
 have hM := qO hz hM; clear hz
 refine qs <| wp_ret ?_
 exact qT (rs := [2]) hS rfl rfl (hret JX JR JS _ (qC hM) JW (hS.st.pick [0] (by kernel_rfl)))
theorem za {H : zB} {F : List qj} {w : World} {R : Ending → World → Prop} {kr : (Int × Int) → Prop} {kp : Value → Prop} (hG : Gl H) (K : Nat) (JN : qh) (JP : Nat) (JQ : qj) (JV : zH JQ JP ([qr JN.Window_.text_, .int .i64 JN.Window_.base_, .int .i64 JN.next_]) 64)
    (hS : St w H [JQ] F) (hm : (qZ.m K JN).wp kr kp)
    (hret : ∀ (JU : Int) (JO : Int) (JT : qj) (w : World), kr (JU, JO) → (zH JT JP ([qr JN.Window_.text_, .int .i64 JN.Window_.base_, .int .i64 JO]) 64) → St w H [JT] F → R (.returned (.int .u64 JU)) w)
    (hpan : ∀ v w, kp v → St w H [] F → R (.panicked [⟨v, false, false⟩]) w) :
    Calls Tryd.prog 51 ⟨[qp JP 0]⟩ w R := by
 refine enter Tryd.func51 rfl Tryd.ntmps51 rfl hS fun a w hS => ?_
 have hM := hm; clear hm
 rw [qZ.m] at hM
 refine qn <| sA hS rfl fun hS => qs <| qn <| sM hS rfl fun hS => ql hS rfl Tryd.call77 (xV hG K JN (8 : Int) JP JQ JV (hS.st.part 1 [0] (by kernel_rfl)) (qf hM) (fun JX JR JS w hM JW hst => qk hS.ev hst.appF rfl fun hS => ?_) (fun v w hk hst => zg (qv (⟨hS.ev.defs, hpan _ _ hk hst.appF.frame⟩))))
 replace hS : Ss _ _ _ H [JS] F _ _ := hS
 refine sA hS rfl fun hS => qs <| wp_ret ?_
 exact qT (rs := [2]) hS rfl rfl (hret JX JR JS _ (qC hM) JW (hS.st.pick [0] (by kernel_rfl)))
theorem vK {H : zB} {F : List qj} {w : World} {R : Ending → World → Prop} {kr : (Int × Int × Int × Int × Int × Int × Int × Int) → Prop} {kp : Value → Prop} (hG : Gl H) (K : Nat) (JX : zh) (JP : qJ) (Vk : Nat) (Vb : qj) (J7 : Option Addr) (J9 : Nat) (JQ : qj) (J8 : Option Addr) (Va : Nat) (JR : qj) (Vc : zH Vb Vk ([.int .i64 JP.Type_, .int .i64 JP.Machine_, .int .u64 JP.Entry_, .int .i64 JP.Flags_, .slice J7 JP.Segments_.length J9, .slice J8 JP.Sections_.length Va]) 27) (Uw : zp 58 qb.cells 8 J7 JP.Segments_ J9 JQ) (Ux : zp 43 qa.cells 10 J8 JP.Sections_ Va JR)
    (hS : St w H [Vb, JQ, JR] F) (hm : (xE.m K JX JP).wp kr kp)
    (hret : ∀ (J4 : Int) (J3 : Int) (J0 : Int) (JZ : Int) (Vg : Int) (J6 : Int) (Ve : Int) (Vf : Int) (VX : qj) (w : World), kr (J4, J3, J0, JZ, Vg, J6, Ve, Vf) → (zH VX Vk ([.int .i64 Vg, .int .i64 J6, .int .u64 Ve, .int .i64 Vf, .slice J7 JP.Segments_.length J9, .slice J8 JP.Sections_.length Va]) 27) → St w H [VX, JQ, JR] F → R (.returned (.agg ⟨[.int .u64 J4, .int .u64 J3, .int .i64 J0, .int .i64 JZ]⟩)) w)
    (hpan : ∀ v w (VY : qj) (Uc Ud Ue Uf Ug Uh : Value), kp v → zH VY Vk [Uc, Ud, Ue, Uf, Ug, Uh] 27 → St w H [VY] F → R (.panicked [⟨v, false, false⟩]) w) :
    Calls Tryd.prog 20 ⟨[.agg ⟨[qr JX.whole_.text_, .int .i64 JX.whole_.base_]⟩, qp Vk 0]⟩ w R := by
 refine enter Tryd.func20 rfl Tryd.ntmps20 rfl hS fun a w hS => ?_
 have hM := hm; clear hm
 rw [xE.m] at hM
 refine qn <| bx ([qr JX.whole_.text_, .int .i64 JX.whole_.base_]) hS rfl rfl rfl fun w Uy JS V2 hS => jY ([.int .u64 (0 : Int), .int .u64 (0 : Int), .int .i64 (0 : Int), .int .i64 (0 : Int)]) hS Tryd.zeroValue52 rfl rfl fun w Uz JT V3 hS => qs <| qn <| sO hS (xR 1 rfl V2 rfl ([qr JX.whole_.text_, .int .i64 JX.whole_.base_]) rfl rfl Tryd.isAgg50 Tryd.sizeOf50) rfl fun hS => ql hS rfl Tryd.call21 (xD hG K JX (0 : Int) (64 : Int) (hS.st.part 0 [0, 1, 2, 3, 4] (by kernel_rfl)) (qf hM) (fun JV JN JO Vq w hM VZ hst => qk hS.ev hst.appF rfl fun hS => ?_) (fun v w hk hst => zg (qv (⟨hS.ev.defs, hpan _ _ _ _ _ _ _ _ _ hk Vc (hst.appF.pick [2] (by kernel_rfl))⟩))))
 replace hS : Ss _ _ _ H [Vq, JT, JS, Vb, JQ, JR] F _ _ := hS
 refine sA hS rfl fun hS => qs <| qn <| sM hS rfl fun hS => sO hS (xm rfl) rfl fun hS => sO hS (qU rfl Tryd.runUnderlying64 rfl Tryd.sizeOf47 rfl) rfl fun hS => sO hS (xR 0 rfl VZ rfl ([qr JN, .int .i64 JO]) rfl rfl Tryd.isAgg47 Tryd.sizeOf47) rfl fun hS => ql hS rfl Tryd.call25 (yo hG K (qq.mk JN JO) (hS.st.part 0 [0, 1, 2, 3, 4, 5] (by kernel_rfl)) (qf hM) (fun  w hM  hst => qk hS.ev hst.appF rfl fun hS => ?_))
 replace hS : Ss _ _ _ H [Vq, JT, JS, Vb, JQ, JR] F _ _ := hS
 obtain ⟨Ub, hM⟩ := qL hM
 refine sO hS (QJ rfl Tryd.runUnderlying9 Xx (QQ rfl) Ub) rfl fun hS => sO hS (vW rfl rfl rfl) rfl fun hS => ql hS rfl Tryd.call23 (zX hG K (!((sub JN (0 : Int) (16 : Int)) == ([127, 69, 76, 70, 2, 1, 1, 0, 0, 0, 0, 0, 0, 0, 0, 0] : List UInt8))) (3 : Int) (hS.st.part 0 [0, 1, 2, 3, 4, 5] (by kernel_rfl)) (qf hM) (fun  w hM  hst => qk hS.ev hst.appF rfl fun hS => ?_) (fun v w hk hst => zg (qv (⟨hS.ev.defs, hpan _ _ _ _ _ _ _ _ _ hk Vc (hst.appF.pick [3] (by kernel_rfl))⟩))))
 replace hS : Ss _ _ _ H [Vq, JT, JS, Vb, JQ, JR] F _ _ := hS
 refine qs <| qn <| sM hS rfl fun hS => sO hS (xm rfl) rfl fun hS => sO hS (qU rfl Tryd.runUnderlying64 rfl Tryd.sizeOf3 rfl) rfl fun hS => y3 0 ([qr JN, .int .i64 JO, .int .i64 (16 : Int)]) hS rfl rfl VZ rfl rfl rfl rfl Tryd.sizeOf3 fun w Ui V4 hS => qs <| qn <| sM hS rfl fun hS => sM hS rfl fun hS => sM hS rfl fun hS => ql hS rfl Tryd.call49 (z3 hG K (qh.mk (qq.mk JN JO) (16 : Int)) JV Ui V4 (hS.st.part 1 [0, 1, 2, 3, 4, 5] (by kernel_rfl)) (qf hM) (fun Vi Vu VI w hM Uj hst => qk hS.ev hst.appF rfl fun hS => ?_) (fun v w hk hst => zg (qv (⟨hS.ev.defs, hpan _ _ _ _ _ _ _ _ _ hk Vc (hst.appF.pick [2] (by kernel_rfl))⟩))))
 replace hS : Ss _ _ _ H [VI, JT, JS, Vb, JQ, JR] F _ _ := hS
 refine sM hS rfl fun hS => ql hS rfl Tryd.call49 (z3 hG K (qh.mk (qq.mk JN JO) Vu) JV VI Uj (hS.st.part 1 [0, 1, 2, 3, 4, 5] (by kernel_rfl)) (qf hM) (fun Vm Vv VJ w hM Uk hst => qk hS.ev hst.appF rfl fun hS => ?_) (fun v w hk hst => zg (qv (⟨hS.ev.defs, hpan _ _ _ _ _ _ _ _ _ hk Vc (hst.appF.pick [2] (by kernel_rfl))⟩))))
 replace hS : Ss _ _ _ H [VJ, JT, JS, Vb, JQ, JR] F _ _ := hS
 refine sO hS (xm rfl) rfl fun hS => sO hS (qU rfl Tryd.runUnderlying27 rfl Tryd.sizeOf3 rfl) rfl fun hS => y3 3 ([.int .i64 Vi, .int .i64 JP.Machine_, .int .u64 JP.Entry_, .int .i64 JP.Flags_, .slice J7 JP.Segments_.length J9, .slice J8 JP.Sections_.length Va]) hS rfl rfl Vc rfl rfl rfl rfl Tryd.sizeOf3 fun w UB V5 hS => sO hS (xm rfl) rfl fun hS => sO hS (qU rfl Tryd.runUnderlying27 rfl Tryd.sizeOf3 rfl) rfl fun hS => y3 3 ([.int .i64 Vi, .int .i64 Vm, .int .u64 JP.Entry_, .int .i64 JP.Flags_, .slice J7 JP.Segments_.length J9, .slice J8 JP.Sections_.length Va]) hS rfl rfl V5 rfl rfl rfl rfl Tryd.sizeOf3 fun w VK Vj hS => qs <| qn <| sM hS rfl fun hS => ql hS rfl Tryd.call50 (z4 hG K (qh.mk (qq.mk JN JO) Vv) JV VJ Uk (hS.st.part 1 [0, 1, 2, 3, 4, 5] (by kernel_rfl)) (qf hM) (fun Vn Vw VL w hM Ul hst => qk hS.ev hst.appF rfl fun hS => ?_) (fun v w hk hst => zg (qv (⟨hS.ev.defs, hpan _ _ _ _ _ _ _ _ _ hk Vj (hst.appF.pick [2] (by kernel_rfl))⟩))))
 replace hS : Ss _ _ _ H [VL, JT, JS, VK, JQ, JR] F _ _ := hS
 refine sA hS rfl fun hS => qs <| qn <| sM hS rfl fun hS => sM hS rfl fun hS => ql hS rfl Tryd.call51 (za hG K (qh.mk (qq.mk JN JO) Vw) JV VL Ul (hS.st.part 1 [0, 1, 2, 3, 4, 5] (by kernel_rfl)) (qf hM) (fun VG Vx VM w hM Um hst => qk hS.ev hst.appF rfl fun hS => ?_) (fun v w hk hst => zg (qv (⟨hS.ev.defs, hpan _ _ _ _ _ _ _ _ _ hk Vj (hst.appF.pick [2] (by kernel_rfl))⟩))))
 replace hS : Ss _ _ _ H [VM, JT, JS, VK, JQ, JR] F _ _ := hS
 refine sO hS (xm rfl) rfl fun hS => sO hS (qU rfl Tryd.runUnderlying27 rfl Tryd.sizeOf23 rfl) rfl fun hS => y3 3 ([.int .i64 Vi, .int .i64 Vm, .int .u64 VG, .int .i64 JP.Flags_, .slice J7 JP.Segments_.length J9, .slice J8 JP.Sections_.length Va]) hS rfl rfl Vj rfl rfl rfl rfl Tryd.sizeOf23 fun w Vr Vh hS => qs <| qn <| jY ([.int .u64 (0 : Int), .int .u64 (0 : Int), .int .i64 (0 : Int), .int .i64 (0 : Int)]) hS Tryd.zeroValue52 rfl rfl fun w UA VN V6 hS => qs <| qn <| sM hS rfl fun hS => ql hS rfl Tryd.call51 (za hG K (qh.mk (qq.mk JN JO) Vx) JV VM Um (hS.st.part 1 [1, 0, 2, 3, 4, 5, 6] (by kernel_rfl)) (qf hM) (fun J1 Vy VO w hM Un hst => qk hS.ev hst.appF rfl fun hS => ?_) (fun v w hk hst => zg (qv (⟨hS.ev.defs, hpan _ _ _ _ _ _ _ _ _ hk Vh (hst.appF.pick [3] (by kernel_rfl))⟩))))
 replace hS : Ss _ _ _ H [VO, VN, JT, JS, Vr, JQ, JR] F _ _ := hS
 refine sM hS rfl fun hS => ql hS rfl Tryd.call51 (za hG K (qh.mk (qq.mk JN JO) Vy) JV VO Un (hS.st.part 1 [0, 1, 2, 3, 4, 5, 6] (by kernel_rfl)) (qf hM) (fun J5 Vz VP w hM Uo hst => qk hS.ev hst.appF rfl fun hS => ?_) (fun v w hk hst => zg (qv (⟨hS.ev.defs, hpan _ _ _ _ _ _ _ _ _ hk Vh (hst.appF.pick [3] (by kernel_rfl))⟩))))
 replace hS : Ss _ _ _ H [VP, VN, JT, JS, Vr, JQ, JR] F _ _ := hS
 refine sO hS (qU rfl Tryd.runUnderlying52 rfl Tryd.sizeOf23 rfl) rfl fun hS => y3 1 ([.int .u64 J1, .int .u64 (0 : Int), .int .i64 (0 : Int), .int .i64 (0 : Int)]) hS rfl rfl V6 rfl rfl rfl rfl Tryd.sizeOf23 fun w UC V7 hS => sO hS (qU rfl Tryd.runUnderlying52 rfl Tryd.sizeOf23 rfl) rfl fun hS => y3 1 ([.int .u64 J1, .int .u64 J5, .int .i64 (0 : Int), .int .i64 (0 : Int)]) hS rfl rfl V7 rfl rfl rfl rfl Tryd.sizeOf23 fun w Vl V8 hS => qs <| qn <| sM hS rfl fun hS => sM hS rfl fun hS => ql hS rfl Tryd.call50 (z4 hG K (qh.mk (qq.mk JN JO) Vz) JV VP Uo (hS.st.part 1 [0, 1, 2, 3, 4, 5, 6] (by kernel_rfl)) (qf hM) (fun V0 VA VQ w hM Up hst => qk hS.ev hst.appF rfl fun hS => ?_) (fun v w hk hst => zg (qv (⟨hS.ev.defs, hpan _ _ _ _ _ _ _ _ _ hk Vh (hst.appF.pick [3] (by kernel_rfl))⟩))))
 replace hS : Ss _ _ _ H [VQ, Vl, JT, JS, Vr, JQ, JR] F _ _ := hS
 refine sO hS (xm rfl) rfl fun hS => sO hS (qU rfl Tryd.runUnderlying27 rfl Tryd.sizeOf3 rfl) rfl fun hS => y3 4 ([.int .i64 Vi, .int .i64 Vm, .int .u64 VG, .int .i64 V0, .slice J7 JP.Segments_.length J9, .slice J8 JP.Sections_.length Va]) hS rfl rfl Vh rfl rfl rfl rfl Tryd.sizeOf3 fun w J2 JW hS => qs <| qn <| sM hS rfl fun hS => ql hS rfl Tryd.call49 (z3 hG K (qh.mk (qq.mk JN JO) VA) JV VQ Up (hS.st.part 1 [0, 1, 2, 3, 4, 5, 6] (by kernel_rfl)) (qf hM) (fun Vo VB VR w hM Uq hst => qk hS.ev hst.appF rfl fun hS => ?_) (fun v w hk hst => zg (qv (⟨hS.ev.defs, hpan _ _ _ _ _ _ _ _ _ hk JW (hst.appF.pick [3] (by kernel_rfl))⟩))))
 replace hS : Ss _ _ _ H [VR, Vl, JT, JS, J2, JQ, JR] F _ _ := hS
 refine sM hS rfl fun hS => ql hS rfl Tryd.call49 (z3 hG K (qh.mk (qq.mk JN JO) VB) JV VR Uq (hS.st.part 1 [0, 1, 2, 3, 4, 5, 6] (by kernel_rfl)) (qf hM) (fun VH VC VS w hM Ur hst => qk hS.ev hst.appF rfl fun hS => ?_) (fun v w hk hst => zg (qv (⟨hS.ev.defs, hpan _ _ _ _ _ _ _ _ _ hk JW (hst.appF.pick [3] (by kernel_rfl))⟩))))
 replace hS : Ss _ _ _ H [VS, Vl, JT, JS, J2, JQ, JR] F _ _ := hS
 refine sA hS rfl fun hS => sA hS rfl fun hS => qs <| qn <| sM hS rfl fun hS => ql hS rfl Tryd.call49 (z3 hG K (qh.mk (qq.mk JN JO) VC) JV VS Ur (hS.st.part 1 [0, 1, 2, 3, 4, 5, 6] (by kernel_rfl)) (qf hM) (fun JY VD VT w hM Us hst => qk hS.ev hst.appF rfl fun hS => ?_) (fun v w hk hst => zg (qv (⟨hS.ev.defs, hpan _ _ _ _ _ _ _ _ _ hk JW (hst.appF.pick [3] (by kernel_rfl))⟩))))
 replace hS : Ss _ _ _ H [VT, Vl, JT, JS, J2, JQ, JR] F _ _ := hS
 refine sO hS (qU rfl Tryd.runUnderlying52 rfl Tryd.sizeOf3 rfl) rfl fun hS => y3 1 ([.int .u64 J1, .int .u64 J5, .int .i64 JY, .int .i64 (0 : Int)]) hS rfl rfl V8 rfl rfl rfl rfl Tryd.sizeOf3 fun w VU V9 hS => qs <| qn <| sM hS rfl fun hS => ql hS rfl Tryd.call49 (z3 hG K (qh.mk (qq.mk JN JO) VD) JV VT Us (hS.st.part 1 [0, 1, 2, 3, 4, 5, 6] (by kernel_rfl)) (qf hM) (fun V1 VE VV w hM Ut hst => qk hS.ev hst.appF rfl fun hS => ?_) (fun v w hk hst => zg (qv (⟨hS.ev.defs, hpan _ _ _ _ _ _ _ _ _ hk JW (hst.appF.pick [3] (by kernel_rfl))⟩))))
 replace hS : Ss _ _ _ H [VV, VU, JT, JS, J2, JQ, JR] F _ _ := hS
 refine sA hS rfl fun hS => qs <| qn <| sM hS rfl fun hS => ql hS rfl Tryd.call49 (z3 hG K (qh.mk (qq.mk JN JO) VE) JV VV Ut (hS.st.part 1 [0, 1, 2, 3, 4, 5, 6] (by kernel_rfl)) (qf hM) (fun JU VF VW w hM Uu hst => qk hS.ev hst.appF rfl fun hS => ?_) (fun v w hk hst => zg (qv (⟨hS.ev.defs, hpan _ _ _ _ _ _ _ _ _ hk JW (hst.appF.pick [3] (by kernel_rfl))⟩))))
 replace hS : Ss _ _ _ H [VW, VU, JT, JS, J2, JQ, JR] F _ _ := hS
 refine sO hS (qU rfl Tryd.runUnderlying52 rfl Tryd.sizeOf3 rfl) rfl fun hS => y3 1 ([.int .u64 J1, .int .u64 J5, .int .i64 JY, .int .i64 JU]) hS rfl rfl V9 rfl rfl rfl rfl Tryd.sizeOf3 fun w Vs Vd hS => qs <| qn <| sM hS rfl fun hS => ql hS rfl Tryd.call49 (z3 hG K (qh.mk (qq.mk JN JO) VF) JV VW Uu (hS.st.part 1 [0, 1, 2, 3, 4, 5, 6] (by kernel_rfl)) (qf hM) (fun Vp Uv Vt w hM UE hst => qk hS.ev hst.appF rfl fun hS => ?_) (fun v w hk hst => zg (qv (⟨hS.ev.defs, hpan _ _ _ _ _ _ _ _ _ hk JW (hst.appF.pick [3] (by kernel_rfl))⟩))))
 replace hS : Ss _ _ _ H [Vt, Vs, JT, JS, J2, JQ, JR] F _ _ := hS
 refine sA hS rfl fun hS => qs <| qn <| sM hS rfl fun hS => sB hS rfl fun hS => sM hS rfl fun hS => xy 2 false 69 (b := (Vn != (1 : Int))) (r := (Vo != (64 : Int))) hS rfl rfl rfl rfl rfl rfl rfl (fun hb a w hS K hK => ?_) rfl fun a w hS => ?_
 ·refine qw hS rfl rfl rfl hb (mv rfl) rfl fun a w hS => ?_
  refine qw hS rfl rfl rfl hb (x6 rfl rfl rfl) rfl fun a w hS => ?_
  exact qN (hK _ _ (hS.up 2 rfl rfl))
 refine sM hS rfl fun hS => xy 2 false 73 (b := ((Vn != (1 : Int)) || (Vo != (64 : Int)))) (r := (VH != (56 : Int))) hS rfl rfl rfl rfl rfl rfl rfl (fun hb a w hS K hK => ?_) rfl fun a w hS => ?_
 ·refine qw hS rfl rfl rfl hb (mv rfl) rfl fun a w hS => ?_
  refine qw hS rfl rfl rfl hb (x6 rfl rfl rfl) rfl fun a w hS => ?_
  exact qN (hK _ _ (hS.up 2 rfl rfl))
 refine sM hS rfl fun hS => xy 2 false 77 (b := (((Vn != (1 : Int)) || (Vo != (64 : Int))) || (VH != (56 : Int)))) (r := (V1 != (64 : Int))) hS rfl rfl rfl rfl rfl rfl rfl (fun hb a w hS K hK => ?_) rfl fun a w hS => ?_
 ·refine qw hS rfl rfl rfl hb (mv rfl) rfl fun a w hS => ?_
  refine qw hS rfl rfl rfl hb (x6 rfl rfl rfl) rfl fun a w hS => ?_
  exact qN (hK _ _ (hS.up 2 rfl rfl))
 refine ql hS rfl Tryd.call23 (zX hG K ((((Vn != (1 : Int)) || (Vo != (64 : Int))) || (VH != (56 : Int))) || (V1 != (64 : Int))) (3 : Int) (hS.st.part 0 [0, 1, 2, 3, 4, 5, 6] (by kernel_rfl)) (qf hM) (fun  w hM  hst => qk hS.ev hst.appF rfl fun hS => ?_) (fun v w hk hst => zg (qv (⟨hS.ev.defs, hpan _ _ _ _ _ _ _ _ _ hk JW (hst.appF.pick [4] (by kernel_rfl))⟩))))
 replace hS : Ss _ _ _ H [Vt, Vs, JT, JS, J2, JQ, JR] F _ _ := hS
 refine qs <| qn <| sO hS (qU rfl Tryd.runUnderlying52 rfl Tryd.sizeOf3 rfl) rfl fun hS => sO hS (zD 1 rfl Vd rfl rfl Tryd.isAgg3) rfl fun hS => sB hS rfl fun hS => sM hS rfl fun hS => xy 5 false 85 (b := (decide (JU < (2 : Int)))) (r := (Vp != (qM (JU - (1 : Int))))) hS rfl rfl rfl rfl rfl rfl rfl (fun hb a w hS K hK => ?_) rfl fun a w hS => ?_
 ·refine qw hS rfl rfl rfl hb (mv rfl) rfl fun a w hS => ?_
  refine qw hS rfl rfl rfl hb (qU rfl Tryd.runUnderlying52 rfl Tryd.sizeOf3 rfl) rfl fun a w hS => qw hS rfl rfl rfl hb (zD 1 rfl Vd rfl rfl Tryd.isAgg3) rfl fun a w hS => qw hS rfl rfl rfl hb (x6 rfl rfl rfl) rfl fun a w hS => qw hS rfl rfl rfl hb (x6 rfl rfl rfl) rfl fun a w hS => ?_
  exact qN (hK _ _ (hS.up 5 rfl rfl))
 refine sM hS rfl fun hS => xy 3 false 92 (b := ((decide (JU < (2 : Int))) || (Vp != (qM (JU - (1 : Int)))))) (r := (decide (JY > (1000 : Int)))) hS rfl rfl rfl rfl rfl rfl rfl (fun hb a w hS K hK => ?_) rfl fun a w hS => ?_
 ·refine qw hS rfl rfl rfl hb (qU rfl Tryd.runUnderlying52 rfl Tryd.sizeOf3 rfl) rfl fun a w hS => ?_
  refine qw hS rfl rfl rfl hb (zD 1 rfl Vd rfl rfl Tryd.isAgg3) rfl fun a w hS => qw hS rfl rfl rfl hb (x6 rfl rfl rfl) rfl fun a w hS => ?_
  exact qN (hK _ _ (hS.up 3 rfl rfl))
 refine sM hS rfl fun hS => xy 3 false 97 (b := (((decide (JU < (2 : Int))) || (Vp != (qM (JU - (1 : Int))))) || (decide (JY > (1000 : Int))))) (r := (decide (JU > (1002 : Int)))) hS rfl rfl rfl rfl rfl rfl rfl (fun hb a w hS K hK => ?_) rfl fun a w hS => ?_
 ·refine qw hS rfl rfl rfl hb (qU rfl Tryd.runUnderlying52 rfl Tryd.sizeOf3 rfl) rfl fun a w hS => ?_
  refine qw hS rfl rfl rfl hb (zD 1 rfl Vd rfl rfl Tryd.isAgg3) rfl fun a w hS => qw hS rfl rfl rfl hb (x6 rfl rfl rfl) rfl fun a w hS => ?_
  exact qN (hK _ _ (hS.up 3 rfl rfl))
 refine ql hS rfl Tryd.call23 (zX hG K ((((decide (JU < (2 : Int))) || (Vp != (qM (JU - (1 : Int))))) || (decide (JY > (1000 : Int)))) || (decide (JU > (1002 : Int)))) (3 : Int) (hS.st.part 0 [0, 1, 2, 3, 4, 5, 6] (by kernel_rfl)) (qf hM) (fun  w hM  hst => qk hS.ev hst.appF rfl fun hS => ?_) (fun v w hk hst => zg (qv (⟨hS.ev.defs, hpan _ _ _ _ _ _ _ _ _ hk JW (hst.appF.pick [4] (by kernel_rfl))⟩))))
 replace hS : Ss _ _ _ H [Vt, Vs, JT, JS, J2, JQ, JR] F _ _ := hS
 refine qs <| qn <| sO hS (xR 1 rfl Vd rfl ([.int .u64 J1, .int .u64 J5, .int .i64 JY, .int .i64 JU]) rfl rfl Tryd.isAgg52 Tryd.sizeOf52) rfl fun hS => jr 2 ([.int .u64 J1, .int .u64 J5, .int .i64 JY, .int .i64 JU]) ([.int .u64 J1, .int .u64 J5, .int .i64 JY, .int .i64 JU]) hS rfl rfl V3 rfl rfl Tryd.sizeOf52 (by simp [Value.oneCell']) (Nat.le_of_ble_eq_true rfl) rfl fun w UD Ua hS => qs <| wp_ret ?_
 exact xX (vs := [.agg ⟨[.int .u64 J1, .int .u64 J5, .int .i64 JY, .int .i64 JU]⟩]) hS rfl (by exact ⟨uZ 2 ([.int .u64 J1, .int .u64 J5, .int .i64 JY, .int .i64 JU]) rfl Ua rfl rfl rfl Tryd.isAgg52 Tryd.sizeOf52, trivial⟩) (hret J1 J5 JY JU Vi Vm VG V0 J2 _ (qC hM) JW (hS.st.pick [4, 5, 6] (by kernel_rfl)))
def qh.Own (JP : Nat) (JN : qh) (JQ : qj) : Prop :=
  ∃ (JO : qj), JQ = JO ∧ zH JO JP ([qr JN.Window_.text_, .int .i64 JN.Window_.base_, .int .i64 JN.next_]) 64
theorem jz {H : zB} {F : List qj} {w : World} {R : Ending → World → Prop} {kr : Unit → Prop} {kp : Value → Prop} (hG : Gl H) (K : Nat) (JN : Int)
    (hS : St w H [] F) (hm : (yY.m K JN).wp kr kp)
    (hret : ∀ (w : World), kr () → St w H [] F → R (.returned (.int .u64 JN)) w)
    (hpan : ∀ v w, kp v → St w H [] F → R (.panicked [⟨v, false, false⟩]) w) :
    Calls Tryd.prog 55 ⟨[.int .u64 JN]⟩ w R := by
 refine enter Tryd.func55 rfl Tryd.ntmps55 rfl hS fun a w hS => ?_
 have hM := hm; clear hm
 rw [yY.m] at hM
 refine qn <| sA hS rfl fun hS => qs <| qn <| sM hS rfl fun hS => sB hS rfl fun hS => ql hS rfl Tryd.call23 (zX hG K (decide (JN > (1099511627776 : Int))) (3 : Int) (hS.st.part 0 [] (by kernel_rfl)) (qf hM) (fun  w hM  hst => qk hS.ev hst.appF rfl fun hS => ?_) (fun v w hk hst => zg (qv (⟨hS.ev.defs, hpan _ _ hk hst.appF.frame⟩))))
 replace hS : Ss _ _ _ H [] F _ _ := hS
 refine qs <| qn <| sM hS rfl fun hS => sA hS rfl fun hS => qs <| wp_ret ?_
 exact qT (rs := [2]) hS rfl rfl (hret _ (qC hM) (hS.st.pick [] (by kernel_rfl)))
theorem jQ {H : zB} {F : List qj} {w : World} {R : Ending → World → Prop} {kr : (Int × Int × Int × Int × Int × Int × Int × Int × Int) → Prop} {kp : Value → Prop} (hG : Gl H) (K : Nat) (JU : zh) (JP : qh) (JR : Nat) (Va : qj) (Vu : zH Va JR ([qr JP.Window_.text_, .int .i64 JP.Window_.base_, .int .i64 JP.next_]) 64)
    (hS : St w H [Va] F) (hm : (xv.m K JU JP).wp kr kp)
    (hret : ∀ (J6 : Int) (J3 : Int) (J1 : Int) (J7 : Int) (J5 : Int) (J0 : Int) (J4 : Int) (J2 : Int) (J9 : Int) (Vt : qj) (w : World), kr (J6, J3, J1, J7, J5, J0, J4, J2, J9) → (zH Vt JR ([qr JP.Window_.text_, .int .i64 JP.Window_.base_, .int .i64 J9]) 64) → St w H [Vt] F → R (.returned (.agg ⟨[.int .i64 J6, .int .i64 J3, .int .i64 J1, .int .u64 J7, .int .u64 J5, .int .i64 J0, .int .u64 J4, .int .u64 J2]⟩)) w)
    (hpan : ∀ v w, kp v → St w H [] F → R (.panicked [⟨v, false, false⟩]) w) :
    Calls Tryd.prog 22 ⟨[.agg ⟨[qr JU.whole_.text_, .int .i64 JU.whole_.base_]⟩, qp JR 0]⟩ w R := by
 refine enter Tryd.func22 rfl Tryd.ntmps22 rfl hS fun a w hS => ?_
 have hM := hm; clear hm
 rw [xv.m] at hM
 refine qn <| bx ([qr JU.whole_.text_, .int .i64 JU.whole_.base_]) hS rfl rfl rfl fun w VS JS Vv hS => jY ([.int .i64 (0 : Int), .int .i64 (0 : Int), .int .i64 (0 : Int), .int .u64 (0 : Int), .int .u64 (0 : Int), .int .i64 (0 : Int), .int .u64 (0 : Int), .int .u64 (0 : Int)]) hS Tryd.zeroValue58 rfl rfl fun w VT JT Vw hS => qs <| qn <| sM hS rfl fun hS => ql hS rfl Tryd.call50 (z4 hG K JP JR Va Vu (hS.st.part 1 [2, 0, 1] (by kernel_rfl)) (qf hM) (fun JN Vd Vl w hM VJ hst => qk hS.ev hst.appF rfl fun hS => ?_) (fun v w hk hst => zg (qv (⟨hS.ev.defs, hpan _ _ hk hst.appF.frame⟩))))
 replace hS : Ss _ _ _ H [Vl, JT, JS] F _ _ := hS
 refine sM hS rfl fun hS => ql hS rfl Tryd.call50 (z4 hG K (qh.mk JP.Window_ Vd) JR Vl VJ (hS.st.part 1 [0, 1, 2] (by kernel_rfl)) (qf hM) (fun JO Ve Vm w hM VK hst => qk hS.ev hst.appF rfl fun hS => ?_) (fun v w hk hst => zg (qv (⟨hS.ev.defs, hpan _ _ hk hst.appF.frame⟩))))
 replace hS : Ss _ _ _ H [Vm, JT, JS] F _ _ := hS
 refine sO hS (jW ([.int .i64 JN, .int .i64 JO, .int .i64 (0 : Int), .int .u64 (0 : Int), .int .u64 (0 : Int), .int .i64 (0 : Int), .int .u64 (0 : Int), .int .u64 (0 : Int)]) [(0, 1), (1, 1), (2, 1), (3, 1), (4, 1), (5, 1), (6, 1), (7, 1)] Tryd.zeroValue58 Tryd.runUnderlying58 (by intro w; simp [Tryd.sizeOf23, Tryd.sizeOf3]) rfl (by kernel_rfl)) rfl fun hS => jY ([.int .i64 (0 : Int), .int .i64 (0 : Int), .int .i64 (0 : Int), .int .u64 (0 : Int), .int .u64 (0 : Int), .int .i64 (0 : Int), .int .u64 (0 : Int), .int .u64 (0 : Int)]) hS Tryd.zeroValue58 rfl rfl fun w VU VW Vx hS => jr 0 ([.int .i64 JN, .int .i64 JO, .int .i64 (0 : Int), .int .u64 (0 : Int), .int .u64 (0 : Int), .int .i64 (0 : Int), .int .u64 (0 : Int), .int .u64 (0 : Int)]) ([.int .i64 JN, .int .i64 JO, .int .i64 (0 : Int), .int .u64 (0 : Int), .int .u64 (0 : Int), .int .i64 (0 : Int), .int .u64 (0 : Int), .int .u64 (0 : Int)]) hS rfl rfl Vx rfl rfl Tryd.sizeOf58 (by simp [Value.oneCell']) (Nat.le_of_ble_eq_true rfl) rfl fun w Vb Vy hS => qs <| qn <| sM hS rfl fun hS => ql hS rfl Tryd.call51 (za hG K (qh.mk JP.Window_ Ve) JR Vm VK (hS.st.part 1 [1, 0, 2, 3] (by kernel_rfl)) (qf hM) (fun JW Vf Vn w hM VL hst => qk hS.ev hst.appF rfl fun hS => ?_) (fun v w hk hst => zg (qv (⟨hS.ev.defs, hpan _ _ hk hst.appF.frame⟩))))
 replace hS : Ss _ _ _ H [Vn, Vb, JT, JS] F _ _ := hS
 refine sA hS rfl fun hS => qs <| qn <| sM hS rfl fun hS => ql hS rfl Tryd.call51 (za hG K (qh.mk JP.Window_ Vf) JR Vn VL (hS.st.part 1 [0, 1, 2, 3] (by kernel_rfl)) (qf hM) (fun JQ Vg Vo w hM VM hst => qk hS.ev hst.appF rfl fun hS => ?_) (fun v w hk hst => zg (qv (⟨hS.ev.defs, hpan _ _ hk hst.appF.frame⟩))))
 replace hS : Ss _ _ _ H [Vo, Vb, JT, JS] F _ _ := hS
 refine sM hS rfl fun hS => ql hS rfl Tryd.call51 (za hG K (qh.mk JP.Window_ Vg) JR Vo VM (hS.st.part 1 [0, 1, 2, 3] (by kernel_rfl)) (qf hM) (fun JV Vh Vp w hM VN hst => qk hS.ev hst.appF rfl fun hS => ?_) (fun v w hk hst => zg (qv (⟨hS.ev.defs, hpan _ _ hk hst.appF.frame⟩))))
 replace hS : Ss _ _ _ H [Vp, Vb, JT, JS] F _ _ := hS
 refine sO hS (qU rfl Tryd.runUnderlying58 rfl Tryd.sizeOf23 rfl) rfl fun hS => y3 1 ([.int .i64 JN, .int .i64 JO, .int .i64 (0 : Int), .int .u64 JQ, .int .u64 (0 : Int), .int .i64 (0 : Int), .int .u64 (0 : Int), .int .u64 (0 : Int)]) hS rfl rfl Vy rfl rfl rfl rfl Tryd.sizeOf23 fun w VX Vz hS => sO hS (qU rfl Tryd.runUnderlying58 rfl Tryd.sizeOf23 rfl) rfl fun hS => y3 1 ([.int .i64 JN, .int .i64 JO, .int .i64 (0 : Int), .int .u64 JQ, .int .u64 JV, .int .i64 (0 : Int), .int .u64 (0 : Int), .int .u64 (0 : Int)]) hS rfl rfl Vz rfl rfl rfl rfl Tryd.sizeOf23 fun w Vc VA hS => qs <| qn <| sM hS rfl fun hS => ql hS rfl Tryd.call51 (za hG K (qh.mk JP.Window_ Vh) JR Vp VN (hS.st.part 1 [0, 1, 2, 3] (by kernel_rfl)) (qf hM) (fun JY Vi Vq w hM VO hst => qk hS.ev hst.appF rfl fun hS => ?_) (fun v w hk hst => zg (qv (⟨hS.ev.defs, hpan _ _ hk hst.appF.frame⟩))))
 replace hS : Ss _ _ _ H [Vq, Vc, JT, JS] F _ _ := hS
 refine sA hS rfl fun hS => qs <| qn <| sM hS rfl fun hS => ql hS rfl Tryd.call51 (za hG K (qh.mk JP.Window_ Vi) JR Vq VO (hS.st.part 1 [0, 1, 2, 3] (by kernel_rfl)) (qf hM) (fun JX Vj Vr w hM VP hst => qk hS.ev hst.appF rfl fun hS => ?_) (fun v w hk hst => zg (qv (⟨hS.ev.defs, hpan _ _ hk hst.appF.frame⟩))))
 replace hS : Ss _ _ _ H [Vr, Vc, JT, JS] F _ _ := hS
 refine sM hS rfl fun hS => ql hS rfl Tryd.call51 (za hG K (qh.mk JP.Window_ Vj) JR Vr VP (hS.st.part 1 [0, 1, 2, 3] (by kernel_rfl)) (qf hM) (fun JZ Vk J8 w hM VQ hst => qk hS.ev hst.appF rfl fun hS => ?_) (fun v w hk hst => zg (qv (⟨hS.ev.defs, hpan _ _ hk hst.appF.frame⟩))))
 replace hS : Ss _ _ _ H [J8, Vc, JT, JS] F _ _ := hS
 refine sO hS (qU rfl Tryd.runUnderlying58 rfl Tryd.sizeOf23 rfl) rfl fun hS => y3 1 ([.int .i64 JN, .int .i64 JO, .int .i64 (0 : Int), .int .u64 JQ, .int .u64 JV, .int .i64 (0 : Int), .int .u64 JX, .int .u64 (0 : Int)]) hS rfl rfl VA rfl rfl rfl rfl Tryd.sizeOf23 fun w VY VB hS => sO hS (qU rfl Tryd.runUnderlying58 rfl Tryd.sizeOf23 rfl) rfl fun hS => y3 1 ([.int .i64 JN, .int .i64 JO, .int .i64 (0 : Int), .int .u64 JQ, .int .u64 JV, .int .i64 (0 : Int), .int .u64 JX, .int .u64 JZ]) hS rfl rfl VB rfl rfl rfl rfl Tryd.sizeOf23 fun w Vs VC hS => qs <| qn <| sM hS rfl fun hS => ql hS rfl Tryd.call55 (jz hG K JW (hS.st.part 0 [0, 1, 2, 3] (by kernel_rfl)) (qf hM) (fun  w hM  hst => qk hS.ev hst.appF rfl fun hS => ?_) (fun v w hk hst => zg (qv (⟨hS.ev.defs, hpan _ _ hk hst.appF.frame⟩))))
 replace hS : Ss _ _ _ H [J8, Vs, JT, JS] F _ _ := hS
 refine sO hS (yM rfl Tryd.runUnderlying23 Tryd.runUnderlying3) rfl fun hS => sM hS rfl fun hS => ql hS rfl Tryd.call55 (jz hG K JY (hS.st.part 0 [0, 1, 2, 3] (by kernel_rfl)) (qf hM) (fun  w hM  hst => qk hS.ev hst.appF rfl fun hS => ?_) (fun v w hk hst => zg (qv (⟨hS.ev.defs, hpan _ _ hk hst.appF.frame⟩))))
 replace hS : Ss _ _ _ H [J8, Vs, JT, JS] F _ _ := hS
 refine sO hS (yM rfl Tryd.runUnderlying23 Tryd.runUnderlying3) rfl fun hS => sO hS (qU rfl Tryd.runUnderlying58 rfl Tryd.sizeOf3 rfl) rfl fun hS => y3 1 ([.int .i64 JN, .int .i64 JO, .int .i64 (wr .i64 JW), .int .u64 JQ, .int .u64 JV, .int .i64 (0 : Int), .int .u64 JX, .int .u64 JZ]) hS rfl rfl VC rfl rfl rfl rfl Tryd.sizeOf3 fun w VZ VD hS => sO hS (qU rfl Tryd.runUnderlying58 rfl Tryd.sizeOf3 rfl) rfl fun hS => y3 1 ([.int .i64 JN, .int .i64 JO, .int .i64 (wr .i64 JW), .int .u64 JQ, .int .u64 JV, .int .i64 (wr .i64 JY), .int .u64 JX, .int .u64 JZ]) hS rfl rfl VD rfl rfl rfl rfl Tryd.sizeOf3 fun w VH VE hS => qs <| qn <| sO hS (xR 3 rfl Vv rfl ([qr JU.whole_.text_, .int .i64 JU.whole_.base_]) rfl rfl Tryd.isAgg50 Tryd.sizeOf50) rfl fun hS => sM hS rfl fun hS => sM hS rfl fun hS => ql hS rfl Tryd.call21 (xD hG K JU JW JY (hS.st.part 0 [0, 1, 2, 3] (by kernel_rfl)) (qf hM) (fun VV VR VG VI w hM V1 hst => qk hS.ev hst.appF rfl fun hS => ?_) (fun v w hk hst => zg (qv (⟨hS.ev.defs, hpan _ _ hk hst.appF.frame⟩))))
 replace hS : Ss _ _ _ H [VI, J8, VH, JT, JS] F _ _ := hS
 refine qs <| qn <| sO hS (xR 2 rfl VE rfl ([.int .i64 JN, .int .i64 JO, .int .i64 (wr .i64 JW), .int .u64 JQ, .int .u64 JV, .int .i64 (wr .i64 JY), .int .u64 JX, .int .u64 JZ]) rfl rfl Tryd.isAgg58 Tryd.sizeOf58) rfl fun hS => jr 3 ([.int .i64 JN, .int .i64 JO, .int .i64 (wr .i64 JW), .int .u64 JQ, .int .u64 JV, .int .i64 (wr .i64 JY), .int .u64 JX, .int .u64 JZ]) ([.int .i64 JN, .int .i64 JO, .int .i64 (wr .i64 JW), .int .u64 JQ, .int .u64 JV, .int .i64 (wr .i64 JY), .int .u64 JX, .int .u64 JZ]) hS rfl rfl Vw rfl rfl Tryd.sizeOf58 (by simp [Value.oneCell']) (Nat.le_of_ble_eq_true rfl) rfl fun w V0 VF hS => qs <| wp_ret ?_
 exact xX (vs := [.agg ⟨[.int .i64 JN, .int .i64 JO, .int .i64 (wr .i64 JW), .int .u64 JQ, .int .u64 JV, .int .i64 (wr .i64 JY), .int .u64 JX, .int .u64 JZ]⟩]) hS rfl (by exact ⟨uZ 3 ([.int .i64 JN, .int .i64 JO, .int .i64 (wr .i64 JW), .int .u64 JQ, .int .u64 JV, .int .i64 (wr .i64 JY), .int .u64 JX, .int .u64 JZ]) rfl VF rfl rfl rfl Tryd.isAgg58 Tryd.sizeOf58, trivial⟩) (hret JN JO (wr .i64 JW) JQ JV (wr .i64 JY) JX JZ Vk J8 _ (qC hM) VQ (hS.st.pick [1] (by kernel_rfl)))
theorem jb {H : zB} {F : List qj} {w : World} {R : Ending → World → Prop} {kr : (List UInt8) → Prop} {kp : Value → Prop} (hG : Gl H) (K : Nat) (JP : List UInt8) (JO : Int)
    (hS : St w H [] F) (hm : (qW.m K JP JO).wp kr kp)
    (hret : ∀ (JR : List UInt8) (w : World), kr JR → St w H [] F → R (.returned (qr JR)) w) :
    Calls Tryd.prog 57 ⟨[qr JP, .int .u8 JO]⟩ w R := by
 refine enter Tryd.func57 rfl Tryd.ntmps57 rfl hS fun a w hS => ?_
 have hM := hm; clear hm
 rw [qW.m] at hM
 refine qn <| sA hS rfl fun hS => qs <| wp_seq <| yp <| zz (fun JQ a w => ∃ (JN : List UInt8), Ss 23 [] [(0, qr JN), (1, .int .u8 JO)] H [] F a w ∧ (qW.l1 K JO JQ JN).wp kr kp) K ?_ ?_ ?_
 ·exact ⟨JP, hS.to [] (by kernel_rfl) ⟨rfl, rfl, trivial⟩, hM⟩
 ·intro a w hI; obtain ⟨_, _, hM⟩ := hI; exact zA hM
 ·intro JQ a w hI JY JS
  obtain ⟨JN, hS, hM⟩ := hI
  rw [qW.l1] at hM
  refine wp_seq <| qn <| sM hS rfl fun hS => sO hS (yi rfl Tryd.runUnderlying9) rfl fun hS => sB hS rfl fun hS => sM hS rfl fun hS => ?_
  obtain ⟨JV, hM⟩ := qL hM
  refine xy 7 true 8 (b := (decide ((JN.length : Int) > (0 : Int)))) (r := (((rd JN (qM ((JN.length : Int) - (1 : Int)))).toNat : Int) == JO)) hS rfl rfl rfl rfl rfl rfl rfl (fun hb a w hS K hK => ?_) rfl fun a w hS => ?_
  ·refine qw hS rfl rfl rfl hb (mv rfl) rfl fun a w hS => ?_
   refine qw hS rfl rfl rfl hb (mv rfl) rfl fun a w hS => qw hS rfl rfl rfl hb (yi rfl Tryd.runUnderlying9) rfl fun a w hS => qw hS rfl rfl rfl hb (x6 rfl rfl rfl) rfl fun a w hS => ?_
   have JU := ZA JV hb
   refine qw hS rfl rfl rfl hb (Q9 rfl rfl Tryd.runUnderlying9 JU) rfl fun a w hS => qw hS rfl rfl rfl hb (mv rfl) rfl fun a w hS => qw hS rfl rfl rfl hb (x6 rfl rfl rfl) rfl fun a w hS => ?_
   exact qN (hK _ _ (hS.up 7 rfl rfl))
  refine qs <| qI hS rfl hM (fun JT hM => ?_) (fun JT hM => ?_)
  ·refine wp_skip ?_
   refine qi <| yp <| zI <| sM hS rfl fun hS => sM hS rfl fun hS => sO hS (yi rfl Tryd.runUnderlying9) rfl fun hS => sB hS rfl fun hS => ?_
   obtain ⟨JW, hM⟩ := qL hM
   refine sO hS (QJ rfl Tryd.runUnderlying9 Xx (QQ rfl) JW) rfl fun hS => zO (v := qr) (x0 := (sub JN (0 : Int) (qM ((JN.length : Int) - (1 : Int))))) hS (xK rfl) rfl fun JX a w hz hS => ?_
   have hM := qO hz hM; clear hz
   refine qN <| xr (qi ?_)
   exact JS _ _ ⟨JX, hS.to [] (by kernel_rfl) ⟨rfl, rfl, trivial⟩, hM⟩
  ·refine wp_exit ?_
   refine qK (qK (zi (qi ?_)))
   refine qn <| sM hS rfl fun hS => sA hS rfl fun hS => qs <| wp_ret ?_
   exact qT (rs := [4]) hS rfl rfl (hret JN _ (qC hM) (hS.st.pick [] (by kernel_rfl)))
theorem jo {H : zB} {F : List qj} {w : World} {R : Ending → World → Prop} {kr : (List UInt8) → Prop} {kp : Value → Prop} (hG : Gl H) (K : Nat) (JP : List UInt8) (JO : Int)
    (hS : St w H [] F) (hm : (qX.m K JP JO).wp kr kp)
    (hret : ∀ (JR : List UInt8) (w : World), kr JR → St w H [] F → R (.returned (qr JR)) w) :
    Calls Tryd.prog 56 ⟨[qr JP, .int .u8 JO]⟩ w R := by
 refine enter Tryd.func56 rfl Tryd.ntmps56 rfl hS fun a w hS => ?_
 have hM := hm; clear hm
 rw [qX.m] at hM
 refine qn <| sA hS rfl fun hS => qs <| wp_seq <| yp <| zz (fun JQ a w => ∃ (JN : List UInt8), Ss 17 [] [(0, qr JN), (1, .int .u8 JO)] H [] F a w ∧ (qX.l1 K JO JQ JN).wp kr kp) K ?_ ?_ ?_
 ·exact ⟨JP, hS.to [] (by kernel_rfl) ⟨rfl, rfl, trivial⟩, hM⟩
 ·intro a w hI; obtain ⟨_, _, hM⟩ := hI; exact zA hM
 ·intro JQ a w hI JY JS
  obtain ⟨JN, hS, hM⟩ := hI
  rw [qX.l1] at hM
  refine wp_seq <| qn <| sM hS rfl fun hS => sO hS (yi rfl Tryd.runUnderlying9) rfl fun hS => sB hS rfl fun hS => sM hS rfl fun hS => ?_
  obtain ⟨JV, hM⟩ := qL hM
  refine xy 4 true 8 (b := (decide ((JN.length : Int) > (0 : Int)))) (r := (((rd JN (0 : Int)).toNat : Int) == JO)) hS rfl rfl rfl rfl rfl rfl rfl (fun hb a w hS K hK => ?_) rfl fun a w hS => ?_
  ·refine qw hS rfl rfl rfl hb (mv rfl) rfl fun a w hS => ?_
   have JU := ZA JV hb
   refine qw hS rfl rfl rfl hb (Q9 rfl rfl Tryd.runUnderlying9 JU) rfl fun a w hS => qw hS rfl rfl rfl hb (mv rfl) rfl fun a w hS => qw hS rfl rfl rfl hb (x6 rfl rfl rfl) rfl fun a w hS => ?_
   exact qN (hK _ _ (hS.up 4 rfl rfl))
  refine qs <| qI hS rfl hM (fun JT hM => ?_) (fun JT hM => ?_)
  ·refine wp_skip ?_
   refine qi <| yp <| zI <| sM hS rfl fun hS => ?_
   obtain ⟨JW, hM⟩ := qL hM
   refine sO hS (QJ rfl Tryd.runUnderlying9 (Xy rfl) YZ JW) rfl fun hS => zO (v := qr) (x0 := (sub JN (1 : Int) (JN.length : Int))) hS (xK rfl) rfl fun JX a w hz hS => ?_
   have hM := qO hz hM; clear hz
   refine qN <| xr (qi ?_)
   exact JS _ _ ⟨JX, hS.to [] (by kernel_rfl) ⟨rfl, rfl, trivial⟩, hM⟩
  ·refine wp_exit ?_
   refine qK (qK (zi (qi ?_)))
   refine qn <| sM hS rfl fun hS => sA hS rfl fun hS => qs <| wp_ret ?_
   exact qT (rs := [4]) hS rfl rfl (hret JN _ (qC hM) (hS.st.pick [] (by kernel_rfl)))
theorem jF {H : zB} {F : List qj} {w : World} {R : Ending → World → Prop} {kr : (List UInt8) → Prop} {kp : Value → Prop} (hG : Gl H) (K : Nat) (JN : List UInt8)
    (hS : St w H [] F) (hm : (xq.m K JN).wp kr kp)
    (hret : ∀ (JR : List UInt8) (w : World), kr JR → St w H [] F → R (.returned (qr JR)) w) :
    Calls Tryd.prog 24 ⟨[qr JN, qr ([0] : List UInt8)]⟩ w R := by
 refine enter Tryd.func24 rfl Tryd.ntmps24 rfl hS fun a w hS => ?_
 have hM := hm; clear hm
 rw [xq.m] at hM
 refine qn <| sA hS rfl fun hS => qs <| wp_seq <| qn <| sM hS rfl fun hS => sO hS (vW rfl rfl rfl) rfl fun hS => sM hS rfl fun hS => xy 2 false 9 (b := (JN == ([] : List UInt8))) (r := false) hS rfl rfl rfl rfl rfl rfl rfl (fun hb a w hS K hK => ?_) rfl fun a w hS => ?_
 ·refine qw hS rfl rfl rfl hb (mv rfl) rfl fun a w hS => ?_
  refine qw hS rfl rfl rfl hb (qH (vW rfl rfl rfl) (v' := .bool false) rfl) rfl fun a w hS => ?_
  exact qN (hK _ _ (hS.up 2 rfl rfl))
 refine qs <| qI hS rfl hM (fun JS hM => ?_) (fun JS hM => ?_)
 ·refine wp_seq ?_
  refine zI <| sM hS rfl fun hS => sA hS rfl fun hS => qs <| wp_ret <| qx ?_
  exact qT (rs := [4]) hS rfl rfl (hret JN _ (qC hM) (hS.st.pick [] (by kernel_rfl)))
 ·refine wp_skip ?_
  refine qi <| wp_seq <| qn <| sM hS rfl fun hS => sO hS (qH (yi rfl Tryd.runUnderlying9) (v' := .int .i64 (1 : Int)) rfl) rfl fun hS => sO hS (qH (x6 rfl rfl rfl) (v' := .bool true) rfl) rfl fun hS => sM hS rfl fun hS => qw hS rfl rfl rfl rfl (mv rfl) rfl fun a w hS => ?_
  obtain ⟨JO, hM⟩ := qL hM
  refine qw hS rfl rfl rfl rfl (qH (Q9 rfl rfl Tryd.runUnderlying9 JO) (v' := .int .u8 (0 : Int)) rfl) rfl fun a w hS => qw hS rfl rfl rfl rfl (qH (x6 rfl rfl rfl) (v' := .bool true) rfl) rfl fun a w hS => sO hS (pk rfl rfl rfl) rfl fun hS => qs <| jn hS rfl <| wp_seq <| qR (vals := [some (qr JN), some (qr ([0] : List UInt8)), some (.int .u8 (0 : Int)), none, some (qr ([0] : List UInt8)), some (.int .u8 (0 : Int)), none, none]) hS xe rfl ?_
  intro l w ho hcl hA hst
  refine yA hA hst ho hcl zU xf 3 [0, 1, 2, 4, 5] rfl rfl rfl rfl rfl (by exact ⟨nM rfl, nM rfl, nQ rfl (by exact qH (qH (Q9 rfl rfl Tryd.runUnderlying9 JO) (v' := .int .u8 (0 : Int)) rfl) rfl), nM rfl, nQ rfl (by exact qH (qH (Q9 rfl rfl Tryd.runUnderlying9 JO) (v' := .int .u8 (0 : Int)) rfl) rfl), trivial⟩) fun D l a w ho hcl hav hpre hm hE hk hA hst => ?_
  have hS := (Ss.mk hE hst).env2 (e' := [(22, qr JN), (24, .int .u8 (0 : Int))]) ⟨rfl, rfl, trivial⟩
  refine qy rfl <| ql hS rfl Tryd.call57 (jb hG K JN (0 : Int) (hS.st.part 0 [] (by kernel_rfl)) (qf hM) (fun JP w hM  hst => qk hS.ev hst.appF rfl fun hS => ?_))
  replace hS : Ss _ _ _ H [] F _ _ := hS
  refine qs ?_
  replace hst := hS.st
  obtain ⟨hcl, hmust, hav2, hA⟩ := dn (vals' := [some (qr JN), some (qr ([0] : List UInt8)), some (.int .u8 (0 : Int)), some (qr JP), some (qr ([0] : List UInt8)), some (.int .u8 (0 : Int)), none, none]) 3 [(0, 3), (2, 3), (1, 2)] hA hcl hav hm hpre hk rfl rfl rfl rfl rfl rfl rfl
  clear hm hav
  refine yA hA hst ho hcl hav2 hmust 6 [4, 5] rfl rfl rfl rfl rfl (by exact ⟨nM rfl, nQ rfl (by exact qH (qH (Q9 rfl rfl Tryd.runUnderlying9 JO) (v' := .int .u8 (0 : Int)) rfl) rfl), trivial⟩) fun D l a w ho hcl hav hpre hm hE hk hA hst => ?_
  have hS := (Ss.mk hE hst).env2 (e' := [(25, qr JP), (27, .int .u8 (0 : Int))]) ⟨rfl, rfl, trivial⟩
  refine qy rfl <| ql hS rfl Tryd.call56 (jo hG K JP (0 : Int) (hS.st.part 0 [] (by kernel_rfl)) (qf hM) (fun JQ w hM  hst => qk hS.ev hst.appF rfl fun hS => ?_))
  replace hS : Ss _ _ _ H [] F _ _ := hS
  refine qs ?_
  replace hst := hS.st
  obtain ⟨hcl, hmust, hav2, hA⟩ := dn (vals' := [some (qr JN), some (qr ([0] : List UInt8)), some (.int .u8 (0 : Int)), some (qr JP), some (qr ([0] : List UInt8)), some (.int .u8 (0 : Int)), some (qr JQ), some (qr JQ)]) 6 [(3, 6), (5, 6), (0, 3), (2, 3), (4, 5), (1, 2)] hA hcl hav hm hpre hk rfl rfl rfl rfl rfl rfl rfl
  clear hm hav
  refine xL hA hst ho hcl hmust [7] rfl rfl rfl (by exact ⟨nA rfl, trivial⟩) fun a w hS => ?_
  replace hS := hS.env2 (e' := [(4, qr JQ)]) ⟨rfl, trivial⟩
  refine qi <| wp_ret <| qx ?_
  exact qT (rs := [4]) hS rfl rfl (hret JQ _ (qC hM) (hS.st.pick [] (by kernel_rfl)))
theorem jP {H : zB} {F : List qj} {w : World} {R : Ending → World → Prop} {kr : (Int × Int × Int × (List UInt8) × Int × Int × Int × Int × Int × Int × Int) → Prop} {kp : Value → Prop} (hG : Gl H) (K : Nat) (JZ : zh) (JS : qh) (JW : Nat) (Vk : qj) (VK : zH Vk JW ([qr JS.Window_.text_, .int .i64 JS.Window_.base_, .int .i64 JS.next_]) 64)
    (hS : St w H [Vk] F) (hm : (zl.m K JZ JS).wp kr kp)
    (hret : ∀ (J6 : Int) (J5 : Int) (J7 : Int) (J9 : List UInt8) (Vf : Int) (Vc : Int) (Vb : Int) (J3 : Int) (Va : Int) (VJ : Int) (Ve : Int) (VH : qj) (w : World), kr (J6, J5, J7, J9, Vf, Vc, Vb, J3, Va, VJ, Ve) → (zH VH JW ([qr JS.Window_.text_, .int .i64 JS.Window_.base_, .int .i64 Ve]) 64) → St w H [VH] F → R (.returned (.tuple ⟨[.agg ⟨[qr ([] : List UInt8), .int .i64 J6, .int .u64 J5, .int .u64 J7, qr J9, .int .i64 Vf, .int .i64 Vc, .int .i64 Vb, .int .u64 J3, .int .u64 Va]⟩, .int .i64 VJ]⟩)) w)
    (hpan : ∀ v w, kp v → St w H [] F → R (.panicked [⟨v, false, false⟩]) w) :
    Calls Tryd.prog 26 ⟨[.agg ⟨[qr JZ.whole_.text_, .int .i64 JZ.whole_.base_]⟩, qp JW 0]⟩ w R := by
 refine enter Tryd.func26 rfl Tryd.ntmps26 rfl hS fun a w hS => ?_
 have hM := hm; clear hm
 rw [zl.m] at hM
 refine qn <| bx ([qr JZ.whole_.text_, .int .i64 JZ.whole_.base_]) hS rfl rfl rfl fun w Uc JU VL hS => jY ([qr ([] : List UInt8), .int .i64 (0 : Int), .int .u64 (0 : Int), .int .u64 (0 : Int), qr ([] : List UInt8), .int .i64 (0 : Int), .int .i64 (0 : Int), .int .i64 (0 : Int), .int .u64 (0 : Int), .int .u64 (0 : Int)]) hS Tryd.zeroValue43 rfl rfl fun w VX JT VM hS => sA hS rfl fun hS => qs <| qn <| sM hS rfl fun hS => ql hS rfl Tryd.call50 (z4 hG K JS JW Vk VK (hS.st.part 1 [2, 0, 1] (by kernel_rfl)) (qf hM) (fun Vi Vn Vx w hM V0 hst => qk hS.ev hst.appF rfl fun hS => ?_) (fun v w hk hst => zg (qv (⟨hS.ev.defs, hpan _ _ hk hst.appF.frame⟩))))
 replace hS : Ss _ _ _ H [Vx, JT, JU] F _ _ := hS
 refine sA hS rfl fun hS => qs <| qn <| sM hS rfl fun hS => ql hS rfl Tryd.call50 (z4 hG K (qh.mk JS.Window_ Vn) JW Vx V0 (hS.st.part 1 [0, 1, 2] (by kernel_rfl)) (qf hM) (fun JP Vo Vy w hM V1 hst => qk hS.ev hst.appF rfl fun hS => ?_) (fun v w hk hst => zg (qv (⟨hS.ev.defs, hpan _ _ hk hst.appF.frame⟩))))
 replace hS : Ss _ _ _ H [Vy, JT, JU] F _ _ := hS
 refine sM hS rfl fun hS => ql hS rfl Tryd.call51 (za hG K (qh.mk JS.Window_ Vo) JW Vy V1 (hS.st.part 1 [0, 1, 2] (by kernel_rfl)) (qf hM) (fun JQ Vp Vz w hM V2 hst => qk hS.ev hst.appF rfl fun hS => ?_) (fun v w hk hst => zg (qv (⟨hS.ev.defs, hpan _ _ hk hst.appF.frame⟩))))
 replace hS : Ss _ _ _ H [Vz, JT, JU] F _ _ := hS
 refine sM hS rfl fun hS => ql hS rfl Tryd.call51 (za hG K (qh.mk JS.Window_ Vp) JW Vz V2 (hS.st.part 1 [0, 1, 2] (by kernel_rfl)) (qf hM) (fun JR Vq VA w hM V3 hst => qk hS.ev hst.appF rfl fun hS => ?_) (fun v w hk hst => zg (qv (⟨hS.ev.defs, hpan _ _ hk hst.appF.frame⟩))))
 replace hS : Ss _ _ _ H [VA, JT, JU] F _ _ := hS
 refine sO hS (jW ([qr ([] : List UInt8), .int .i64 JP, .int .u64 JQ, .int .u64 JR, qr ([] : List UInt8), .int .i64 (0 : Int), .int .i64 (0 : Int), .int .i64 (0 : Int), .int .u64 (0 : Int), .int .u64 (0 : Int)]) [(0, 1), (1, 1), (2, 1), (3, 1), (4, 1), (5, 1), (6, 1), (7, 1), (8, 1), (9, 1)] Tryd.zeroValue43 Tryd.runUnderlying43 (by intro w; simp [Tryd.sizeOf23, Tryd.sizeOf3, Tryd.sizeOf9]) rfl (by kernel_rfl)) rfl fun hS => jY ([qr ([] : List UInt8), .int .i64 (0 : Int), .int .u64 (0 : Int), .int .u64 (0 : Int), qr ([] : List UInt8), .int .i64 (0 : Int), .int .i64 (0 : Int), .int .i64 (0 : Int), .int .u64 (0 : Int), .int .u64 (0 : Int)]) hS Tryd.zeroValue43 rfl rfl fun w Vw Ue VN hS => jr 0 ([qr ([] : List UInt8), .int .i64 JP, .int .u64 JQ, .int .u64 JR, qr ([] : List UInt8), .int .i64 (0 : Int), .int .i64 (0 : Int), .int .i64 (0 : Int), .int .u64 (0 : Int), .int .u64 (0 : Int)]) ([qr ([] : List UInt8), .int .i64 JP, .int .u64 JQ, .int .u64 JR, qr ([] : List UInt8), .int .i64 (0 : Int), .int .i64 (0 : Int), .int .i64 (0 : Int), .int .u64 (0 : Int), .int .u64 (0 : Int)]) hS rfl rfl VN rfl rfl Tryd.sizeOf43 (by simp [Value.oneCell']) (Nat.le_of_ble_eq_true rfl) rfl fun w J4 VO hS => qs <| qn <| sM hS rfl fun hS => ql hS rfl Tryd.call51 (za hG K (qh.mk JS.Window_ Vq) JW VA V3 (hS.st.part 1 [1, 0, 2, 3] (by kernel_rfl)) (qf hM) (fun VI Vr VB w hM V4 hst => qk hS.ev hst.appF rfl fun hS => ?_) (fun v w hk hst => zg (qv (⟨hS.ev.defs, hpan _ _ hk hst.appF.frame⟩))))
 replace hS : Ss _ _ _ H [VB, J4, JT, JU] F _ _ := hS
 refine sM hS rfl fun hS => ql hS rfl Tryd.call51 (za hG K (qh.mk JS.Window_ Vr) JW VB V4 (hS.st.part 1 [0, 1, 2, 3] (by kernel_rfl)) (qf hM) (fun Vj Vs VC w hM V5 hst => qk hS.ev hst.appF rfl fun hS => ?_) (fun v w hk hst => zg (qv (⟨hS.ev.defs, hpan _ _ hk hst.appF.frame⟩))))
 replace hS : Ss _ _ _ H [VC, J4, JT, JU] F _ _ := hS
 refine sA hS rfl fun hS => sA hS rfl fun hS => qs <| qn <| sM hS rfl fun hS => ql hS rfl Tryd.call50 (z4 hG K (qh.mk JS.Window_ Vs) JW VC V5 (hS.st.part 1 [0, 1, 2, 3] (by kernel_rfl)) (qf hM) (fun JV Vt VD w hM V6 hst => qk hS.ev hst.appF rfl fun hS => ?_) (fun v w hk hst => zg (qv (⟨hS.ev.defs, hpan _ _ hk hst.appF.frame⟩))))
 replace hS : Ss _ _ _ H [VD, J4, JT, JU] F _ _ := hS
 refine sM hS rfl fun hS => ql hS rfl Tryd.call50 (z4 hG K (qh.mk JS.Window_ Vt) JW VD V6 (hS.st.part 1 [0, 1, 2, 3] (by kernel_rfl)) (qf hM) (fun JX Vu VE w hM V7 hst => qk hS.ev hst.appF rfl fun hS => ?_) (fun v w hk hst => zg (qv (⟨hS.ev.defs, hpan _ _ hk hst.appF.frame⟩))))
 replace hS : Ss _ _ _ H [VE, J4, JT, JU] F _ _ := hS
 refine sM hS rfl fun hS => ql hS rfl Tryd.call51 (za hG K (qh.mk JS.Window_ Vu) JW VE V7 (hS.st.part 1 [0, 1, 2, 3] (by kernel_rfl)) (qf hM) (fun JY Vv VF w hM V8 hst => qk hS.ev hst.appF rfl fun hS => ?_) (fun v w hk hst => zg (qv (⟨hS.ev.defs, hpan _ _ hk hst.appF.frame⟩))))
 replace hS : Ss _ _ _ H [VF, J4, JT, JU] F _ _ := hS
 refine sM hS rfl fun hS => ql hS rfl Tryd.call51 (za hG K (qh.mk JS.Window_ Vv) JW VF V8 (hS.st.part 1 [0, 1, 2, 3] (by kernel_rfl)) (qf hM) (fun J0 Vd J2 w hM V9 hst => qk hS.ev hst.appF rfl fun hS => ?_) (fun v w hk hst => zg (qv (⟨hS.ev.defs, hpan _ _ hk hst.appF.frame⟩))))
 replace hS : Ss _ _ _ H [J2, J4, JT, JU] F _ _ := hS
 refine sO hS (qU rfl Tryd.runUnderlying43 rfl Tryd.sizeOf3 rfl) rfl fun hS => y3 1 ([qr ([] : List UInt8), .int .i64 JP, .int .u64 JQ, .int .u64 JR, qr ([] : List UInt8), .int .i64 (0 : Int), .int .i64 JV, .int .i64 (0 : Int), .int .u64 (0 : Int), .int .u64 (0 : Int)]) hS rfl rfl VO rfl rfl rfl rfl Tryd.sizeOf3 fun w Uf VP hS => sO hS (qU rfl Tryd.runUnderlying43 rfl Tryd.sizeOf3 rfl) rfl fun hS => y3 1 ([qr ([] : List UInt8), .int .i64 JP, .int .u64 JQ, .int .u64 JR, qr ([] : List UInt8), .int .i64 (0 : Int), .int .i64 JV, .int .i64 JX, .int .u64 (0 : Int), .int .u64 (0 : Int)]) hS rfl rfl VP rfl rfl rfl rfl Tryd.sizeOf3 fun w Ug VQ hS => sO hS (qU rfl Tryd.runUnderlying43 rfl Tryd.sizeOf23 rfl) rfl fun hS => y3 1 ([qr ([] : List UInt8), .int .i64 JP, .int .u64 JQ, .int .u64 JR, qr ([] : List UInt8), .int .i64 (0 : Int), .int .i64 JV, .int .i64 JX, .int .u64 JY, .int .u64 (0 : Int)]) hS rfl rfl VQ rfl rfl rfl rfl Tryd.sizeOf23 fun w Uh VR hS => sO hS (qU rfl Tryd.runUnderlying43 rfl Tryd.sizeOf23 rfl) rfl fun hS => y3 1 ([qr ([] : List UInt8), .int .i64 JP, .int .u64 JQ, .int .u64 JR, qr ([] : List UInt8), .int .i64 (0 : Int), .int .i64 JV, .int .i64 JX, .int .u64 JY, .int .u64 J0]) hS rfl rfl VR rfl rfl rfl rfl Tryd.sizeOf23 fun w Vh Vg hS => qs <| qn <| sM hS rfl fun hS => ql hS rfl Tryd.call55 (jz hG K VI (hS.st.part 0 [0, 1, 2, 3] (by kernel_rfl)) (qf hM) (fun  w hM  hst => qk hS.ev hst.appF rfl fun hS => ?_) (fun v w hk hst => zg (qv (⟨hS.ev.defs, hpan _ _ hk hst.appF.frame⟩))))
 replace hS : Ss _ _ _ H [J2, Vh, JT, JU] F _ _ := hS
 refine qs <| qn <| sM hS rfl fun hS => ql hS rfl Tryd.call55 (jz hG K Vj (hS.st.part 0 [0, 1, 2, 3] (by kernel_rfl)) (qf hM) (fun  w hM  hst => qk hS.ev hst.appF rfl fun hS => ?_) (fun v w hk hst => zg (qv (⟨hS.ev.defs, hpan _ _ hk hst.appF.frame⟩))))
 replace hS : Ss _ _ _ H [J2, Vh, JT, JU] F _ _ := hS
 refine qs <| zq (fun a w => ∃ (JN : List UInt8) (JO : Int) (Vl : qj), Ss 56 [] [(4, qp VX 0), (6, .int .i64 Vi), (7, qp Vw 0)] H [J2, JT, Vl] F a w ∧ (zH Vl Vw ([qr ([] : List UInt8), .int .i64 JP, .int .u64 JQ, .int .u64 JR, qr JN, .int .i64 JO, .int .i64 JV, .int .i64 JX, .int .u64 JY, .int .u64 J0]) 43) ∧ (zl.j1 K Vi JP JQ JR JV JX JY J0 Vd JN JO).wp kr kp) (fun Ub Vm => ?_) ?_
 ·refine wp_seq ?_
  refine zI <| sO hS (qU rfl Tryd.runUnderlying43 rfl Tryd.sizeOf3 rfl) rfl fun hS => sO hS (zD 1 rfl Vg rfl rfl Tryd.isAgg3) rfl fun hS => sB hS rfl fun hS => qs <| qI hS rfl hM (fun VW hM => ?_) (fun VW hM => ?_)
  ·refine zI ?_
   refine sM hS rfl fun hS => sO hS (yM rfl Tryd.runUnderlying23 Tryd.runUnderlying3) rfl fun hS => sO hS (qU rfl Tryd.runUnderlying43 rfl Tryd.sizeOf3 rfl) rfl fun hS => y3 1 ([qr ([] : List UInt8), .int .i64 JP, .int .u64 JQ, .int .u64 JR, qr ([] : List UInt8), .int .i64 (wr .i64 Vj), .int .i64 JV, .int .i64 JX, .int .u64 JY, .int .u64 J0]) hS rfl rfl Vg rfl rfl rfl rfl Tryd.sizeOf3 fun w VY VS hS => qN <| qi ?_
   exact Vm _ _ ⟨([] : List UInt8), (wr .i64 Vj), VY, hS.to [0, 2, 1] (by kernel_rfl) ⟨rfl, rfl, rfl, trivial⟩, VS, hM⟩
  ·refine zI ?_
   refine sO hS (xR 3 rfl VL rfl ([qr JZ.whole_.text_, .int .i64 JZ.whole_.base_]) rfl rfl Tryd.isAgg50 Tryd.sizeOf50) rfl fun hS => sM hS rfl fun hS => sM hS rfl fun hS => ql hS rfl Tryd.call21 (xD hG K JZ VI Vj (hS.st.part 0 [0, 1, 2, 3] (by kernel_rfl)) (qf hM) (fun Ud J1 J8 VG w hM Ua hst => qk hS.ev hst.appF rfl fun hS => ?_) (fun v w hk hst => zg (qv (⟨hS.ev.defs, hpan _ _ hk hst.appF.frame⟩))))
   replace hS : Ss _ _ _ H [VG, J2, Vh, JT, JU] F _ _ := hS
   refine sO hS (xm rfl) rfl fun hS => sO hS (qU rfl Tryd.runUnderlying64 rfl Tryd.sizeOf47 rfl) rfl fun hS => sO hS (xR 0 rfl Ua rfl ([qr J1, .int .i64 J8]) rfl rfl Tryd.isAgg47 Tryd.sizeOf47) rfl fun hS => ql hS rfl Tryd.call25 (yo hG K (qq.mk J1 J8) (hS.st.part 0 [0, 1, 2, 3, 4] (by kernel_rfl)) (qf hM) (fun  w hM  hst => qk hS.ev hst.appF rfl fun hS => ?_))
   replace hS : Ss _ _ _ H [VG, J2, Vh, JT, JU] F _ _ := hS
   refine sO hS (qU rfl Tryd.runUnderlying43 rfl Tryd.sizeOf9 rfl) rfl fun hS => y3 2 ([qr ([] : List UInt8), .int .i64 JP, .int .u64 JQ, .int .u64 JR, qr J1, .int .i64 (0 : Int), .int .i64 JV, .int .i64 JX, .int .u64 JY, .int .u64 J0]) hS rfl rfl Vg rfl rfl rfl rfl Tryd.sizeOf9 fun w VZ VT hS => qN <| qi ?_
   exact Vm _ _ ⟨J1, (0 : Int), VZ, hS.to [1, 3, 2] (by kernel_rfl) ⟨rfl, rfl, rfl, trivial⟩, VT, hM⟩
 ·intro a w hI
  obtain ⟨JN, JO, Vl, hS, VU, hM⟩ := hI
  rw [zl.j1] at hM
  refine qn <| sO hS (xR 2 rfl VU rfl ([qr ([] : List UInt8), .int .i64 JP, .int .u64 JQ, .int .u64 JR, qr JN, .int .i64 JO, .int .i64 JV, .int .i64 JX, .int .u64 JY, .int .u64 J0]) rfl rfl Tryd.isAgg43 Tryd.sizeOf43) rfl fun hS => sM hS rfl fun hS => jr 1 ([qr ([] : List UInt8), .int .i64 JP, .int .u64 JQ, .int .u64 JR, qr JN, .int .i64 JO, .int .i64 JV, .int .i64 JX, .int .u64 JY, .int .u64 J0]) ([qr ([] : List UInt8), .int .i64 JP, .int .u64 JQ, .int .u64 JR, qr JN, .int .i64 JO, .int .i64 JV, .int .i64 JX, .int .u64 JY, .int .u64 J0]) hS rfl rfl VM rfl rfl Tryd.sizeOf43 (by simp [Value.oneCell']) (Nat.le_of_ble_eq_true rfl) rfl fun w Ui VV hS => sA hS rfl fun hS => qs <| wp_ret ?_
  exact xX (vs := [.agg ⟨[qr ([] : List UInt8), .int .i64 JP, .int .u64 JQ, .int .u64 JR, qr JN, .int .i64 JO, .int .i64 JV, .int .i64 JX, .int .u64 JY, .int .u64 J0]⟩, .int .i64 Vi]) hS rfl (by exact ⟨uZ 1 ([qr ([] : List UInt8), .int .i64 JP, .int .u64 JQ, .int .u64 JR, qr JN, .int .i64 JO, .int .i64 JV, .int .i64 JX, .int .u64 JY, .int .u64 J0]) rfl VV rfl rfl rfl Tryd.isAgg43 Tryd.sizeOf43, Zf rfl, trivial⟩) (hret JP JQ JR JN JO JV JX JY J0 Vi Vd J2 _ (qC hM) V9 (hS.st.pick [0] (by kernel_rfl)))
theorem yr {H : zB} {F : List qj} {w : World} {R : Ending → World → Prop} {kr : ((List UInt8) × (List UInt8) × Bool) → Prop} {kp : Value → Prop} (hG : Gl H) (K : Nat) (JN : List UInt8)
    (hS : St w H [] F) (hm : (zG.m K JN).wp kr kp)
    (hret : ∀ (JT : List UInt8) (JU : List UInt8) (JV : Bool) (w : World), kr (JT, JU, JV) → St w H [] F → R (.returned (.tuple ⟨[qr JT, qr JU, .bool JV]⟩)) w) :
    Calls Tryd.prog 82 ⟨[qr JN, qr ([0] : List UInt8)]⟩ w R := by
 refine enter Tryd.func82 rfl Tryd.ntmps82 rfl hS fun a w hS => ?_
 have hM := hm; clear hm
 rw [zG.m] at hM
 refine qn <| sA hS rfl fun hS => sA hS rfl fun hS => sA hS rfl fun hS => qs <| wp_seq <| qn <| sM hS rfl fun hS => sM hS rfl fun hS => ql hS rfl Tryd.call96 (xo hG K JN (hS.st.part 0 [] (by kernel_rfl)) (qf hM) (fun JQ w hM  hst => qk hS.ev hst.appF rfl fun hS => ?_))
 replace hS : Ss _ _ _ H [] F _ _ := hS
 refine sA hS rfl fun hS => qs <| qn <| sM hS rfl fun hS => sB hS rfl fun hS => qs <| qI hS rfl hM (fun JW hM => ?_) (fun JW hM => ?_)
 ·refine wp_seq ?_
  obtain ⟨JX, hM⟩ := qL hM
  obtain ⟨JY, hM⟩ := qL hM
  obtain ⟨JO, JR⟩ : ∃ x, x = (sub JN (0 : Int) JQ) := ⟨_, rfl⟩
  replace hM := qO JR hM
  obtain ⟨JP, JS⟩ : ∃ x, x = (sub JN (qM (JQ + (1 : Int))) (JN.length : Int)) := ⟨_, rfl⟩
  replace hM := qO JS hM
  refine qR (vals := [some (qr JN), some (.int .i64 JQ), some (qr (sub JN (0 : Int) JQ)), some (qr JN), some (.int .i64 JQ), some (qr ([0] : List UInt8)), some (.int .i64 (1 : Int)), some (.int .i64 (qM (JQ + (1 : Int)))), some (qr (sub JN (qM (JQ + (1 : Int))) (JN.length : Int))), some (qr JO), some (qr JP), some (.bool true)]) hS xe rfl ?_
  intro l w ho hcl hA hst
  refine xL hA hst ho hcl xf [0, 1, 2, 3, 4, 5, 6, 7, 8, 9, 10, 11] rfl rfl rfl (by exact ⟨nM rfl, nM rfl, nQ rfl (by exact qH (QJ rfl Tryd.runUnderlying9 Xx (QQ rfl) JX) rfl), nM rfl, nM rfl, nM rfl, nQ rfl (by exact qH (qH (yi rfl Tryd.runUnderlying9) (v' := .int .i64 (1 : Int)) rfl) rfl), nB rfl, nQ rfl (by exact qH (QJ rfl Tryd.runUnderlying9 (Xy rfl) YZ JY) rfl), nQ rfl (by exact qH (xK rfl) (congrArg (qr) JR.symm)), nQ rfl (by exact qH (xK rfl) (congrArg (qr) JS.symm)), nA rfl, trivial⟩) fun a w hS => ?_
  replace hS := hS.env2 (e' := [(4, qr JO), (5, qr JP), (6, .bool true)]) ⟨rfl, rfl, rfl, trivial⟩
  refine qi <| wp_ret <| qx ?_
  exact qT (rs := [4, 5, 6]) hS rfl rfl (hret JO JP true _ (qC hM) (hS.st.pick [] (by kernel_rfl)))
 ·refine wp_skip ?_
  refine qi <| qn <| sM hS rfl fun hS => sA hS rfl fun hS => sA hS rfl fun hS => sA hS rfl fun hS => qs <| wp_ret ?_
  exact qT (rs := [4, 5, 6]) hS rfl rfl (hret JN ([] : List UInt8) false _ (qC hM) (hS.st.pick [] (by kernel_rfl)))
theorem jU {H : zB} {F : List qj} {w : World} {R : Ending → World → Prop} {kr : ((List UInt8) × (List UInt8) × Bool) → Prop} {kp : Value → Prop} (hG : Gl H) (K : Nat) (JN : List UInt8)
    (hS : St w H [] F) (hm : (xS.m K JN).wp kr kp)
    (hret : ∀ (JO : List UInt8) (JP : List UInt8) (JQ : Bool) (w : World), kr (JO, JP, JQ) → St w H [] F → R (.returned (.tuple ⟨[qr JO, qr JP, .bool JQ]⟩)) w) :
    Calls Tryd.prog 63 ⟨[qr JN, qr ([0] : List UInt8)]⟩ w R := by
 refine enter Tryd.func63 rfl Tryd.ntmps63 rfl hS fun a w hS => ?_
 have hM := hm; clear hm
 rw [xS.m] at hM
 refine qn <| sA hS rfl fun hS => sA hS rfl fun hS => sA hS rfl fun hS => qs <| qn <| sM hS rfl fun hS => sM hS rfl fun hS => ql hS rfl Tryd.call82 (yr hG K JN (hS.st.part 0 [] (by kernel_rfl)) (qf hM) (fun JR JS JT w hM  hst => qk hS.ev hst.appF rfl fun hS => ?_))
 replace hS : Ss _ _ _ H [] F _ _ := hS
 refine sO hS (ex rfl rfl) rfl fun hS => sO hS (ex rfl rfl) rfl fun hS => sO hS (ex rfl rfl) rfl fun hS => sA hS rfl fun hS => sA hS rfl fun hS => sA hS rfl fun hS => qs <| wp_ret ?_
 exact qT (rs := [4, 5, 6]) hS rfl rfl (hret JR JS JT _ (qC hM) (hS.st.pick [] (by kernel_rfl)))
theorem u3 {H : zB} {F : List qj} {w : World} {R : Ending → World → Prop} {kr : (List UInt8) → Prop} {kp : Value → Prop} (hG : Gl H) (K : Nat) (JN : List UInt8) (JO : Int)
    (hS : St w H [] F) (hm : (y4.m K JN JO).wp kr kp)
    (hret : ∀ (JR : List UInt8) (w : World), kr JR → St w H [] F → R (.returned (qr JR)) w)
    (hpan : ∀ v w, kp v → St w H [] F → R (.panicked [⟨v, false, false⟩]) w) :
    Calls Tryd.prog 27 ⟨[qr JN, .int .i64 JO]⟩ w R := by
 refine enter Tryd.func27 rfl Tryd.ntmps27 rfl hS fun a w hS => ?_
 have hM := hm; clear hm
 rw [y4.m] at hM
 refine qn <| sA hS rfl fun hS => qs <| qn <| sM hS rfl fun hS => sM hS rfl fun hS => sO hS (yi rfl Tryd.runUnderlying9) rfl fun hS => sB hS rfl fun hS => ql hS rfl Tryd.call23 (zX hG K (decide (JO > (JN.length : Int))) (3 : Int) (hS.st.part 0 [] (by kernel_rfl)) (qf hM) (fun  w hM  hst => qk hS.ev hst.appF rfl fun hS => ?_) (fun v w hk hst => zg (qv (⟨hS.ev.defs, hpan _ _ hk hst.appF.frame⟩))))
 replace hS : Ss _ _ _ H [] F _ _ := hS
 refine qs <| qn <| sM hS rfl fun hS => sM hS rfl fun hS => ?_
 obtain ⟨JS, hM⟩ := qL hM
 refine sO hS (QJ rfl Tryd.runUnderlying9 (Xy rfl) YZ JS) rfl fun hS => ql hS rfl Tryd.call63 (jU hG K (sub JN JO (JN.length : Int)) (hS.st.part 0 [] (by kernel_rfl)) (qf hM) (fun JP JT JQ w hM  hst => qk hS.ev hst.appF rfl fun hS => ?_))
 replace hS : Ss _ _ _ H [] F _ _ := hS
 refine sM hS rfl fun hS => sO hS (ex rfl rfl) rfl fun hS => sO hS (ex rfl rfl) rfl fun hS => sO hS (ex rfl rfl) rfl fun hS => sA hS rfl fun hS => sA hS rfl fun hS => sA hS rfl fun hS => qs <| qn <| sM hS rfl fun hS => sO hS (un rfl rfl) rfl fun hS => sM hS rfl fun hS => xy 3 false 23 (b := (!JQ)) (r := (decide ((JP.length : Int) > (200 : Int)))) hS rfl rfl rfl rfl rfl rfl rfl (fun hb a w hS K hK => ?_) rfl fun a w hS => ?_
 ·refine qw hS rfl rfl rfl hb (mv rfl) rfl fun a w hS => ?_
  refine qw hS rfl rfl rfl hb (yi rfl Tryd.runUnderlying9) rfl fun a w hS => qw hS rfl rfl rfl hb (x6 rfl rfl rfl) rfl fun a w hS => ?_
  exact qN (hK _ _ (hS.up 3 rfl rfl))
 refine ql hS rfl Tryd.call23 (zX hG K ((!JQ) || (decide ((JP.length : Int) > (200 : Int)))) (3 : Int) (hS.st.part 0 [] (by kernel_rfl)) (qf hM) (fun  w hM  hst => qk hS.ev hst.appF rfl fun hS => ?_) (fun v w hk hst => zg (qv (⟨hS.ev.defs, hpan _ _ hk hst.appF.frame⟩))))
 replace hS : Ss _ _ _ H [] F _ _ := hS
 refine qs <| qn <| sM hS rfl fun hS => sA hS rfl fun hS => qs <| wp_ret ?_
 exact qT (rs := [4]) hS rfl rfl (hret JP _ (qC hM) (hS.st.pick [] (by kernel_rfl)))
end Go.TrydS

