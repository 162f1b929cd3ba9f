/- What the functions compute. Printed by wip/gen. -/
import Derived.Test.YtpmkpiffbdcflaaG1
set_option linter.unusedVariables false
set_option linter.unusedSimpArgs false
set_option maxHeartbeats 4000000
set_option maxRecDepth 20000
namespace Go.Proofs.Ytpmkpiffbdcflaa
open Go Go.RowKit
def law18_head_f : Option (Bool) :=
 ((disk_New_f 12).bind fun x1 => match x1 with | none => some false | some x3 => ((store_Open_f x3).bind fun x5 => ((store_Store_Append_f x5 ([120]) x3).bind fun (x9, x10, x11) => ((store_Store_Begin_f x10 ([111, 110, 101]) [] x11).bind fun (x14, x15, x16) => ((store_Store_Append_f x15 ([120]) x16).bind fun (x19, x20, x21) => ((store_Store_Sync_f x20 x21).bind fun (x23, x24) => ((store_Store_Append_f x20 ([121]) x24).bind fun (x27, x28, x29) => ((store_Store_Begin_f x28 [] [] x29).bind fun (x31, x32, x33) => ((disk_Disk_Crash_f x33 [] (-1)).bind fun x35 => ((store_Open_f x35).bind fun x37 => ((store_Store_Append_f x37 ([122]) x35).bind fun (x41, x42, x43) => ((store_Store_Begin_f x42 ([116, 119, 111]) ([[120]]) x43).bind fun (x48, x49, x50) => ((store_Store_Gen_f x49).bind fun x52 => ((disk_Disk_Fuse_f x50 1).bind fun x54 => ((store_Store_Begin_f x49 ([116, 104, 114, 101, 101]) ([[113]]) x54).bind fun (x59, x60, x61) => ((store_Store_Sync_f x60 x61).bind fun (x63, x64) => ((disk_Disk_Crash_f x64 ([true]) (-1)).bind fun x67 => ((store_Open_f x67).bind fun x69 => (((if x9 = 43 then (if x14 = 0 then (if x19 = 0 then (if x23 = 0 then (if x27 = 0 then (if x31 = 1 then (if x41 = 43 then (if x48 = 0 then (if x52 = 2 then (if x59 = 42 then (if x63 = 43 then ((store_Store_State_f x32).bind fun x85 => (if x85 = [111, 110, 101] then ((store_Store_Entries_f x32).bind fun x91 => ((ref17_SameRows_f x91 ([[120], [121]])).bind fun x98 => (if x98 = true then ((store_Store_State_f x69).bind fun x101 => (if x101 = [116, 119, 111] then ((store_Store_Gen_f x69).bind fun x107 => (if x107 = 2 then ((store_Store_Entries_f x69).bind fun x110 => ((ref17_SameRows_f x110 ([[120]])).bind fun x116 => (if x116 = true then ((store_Store_Has_f x69).bind fun x119 => some x119) else some false))) else some false)) else some false)) else some false))) else some false)) else some false) else some false) else some false) else some false) else some false) else some false) else some false) else some false) else some false) else some false) else some false) : Option (Bool)).bind fun x72 => some x72)))))))))))))))))))
theorem law18_head_ok {w0 w : World} {ps : List PF} {fs : List SF}  {r0 : Bool} (H : Hp w0 ps fs w) (h : law18_head_f = some r0) :
  Calls Try.prog 10 [].toArray w fun e w' => ∃ v, e = .returned v ∧ v = .bool r0 ∧ Hp w0 ps fs w' := by
 refine enter [] 161 Try.func10 fun Q a NP RET NRM F => ?_
 replace NP := np NP
 unfold law18_head_f at h
 refine rg ?_
 refine as_ F (v := .bool false) rfl fun a F => ?_
 refine rgend ?_
 refine rg ?_
 obtain ⟨x1, e2, h⟩ := Option.bind_eq_some_iff.1 h
 try dsimp only at h
 rcases x1 with _ | x3
 ·try dsimp only at h
  refine ls (call F Try.func11 (disk_New_ok (H) e2) rfl rfl fun v w hR a F => ?_)
  obtain ⟨rfl, H⟩ := hR
  refine as_ F rfl fun a F => ?_
  refine rgend ?_
  refine wp_seq ?_
  refine rg ?_
  refine mv F rfl fun a F => ?_
  refine qw F (r_peq0 (F.t 17 rfl) (F.k (.pointer none)) Try.underlying24) fun a F => ?_
  refine rgend ?_
  refine wp_cond_true (F.ev rfl) ?_
  refine rg ?_
  refine as_ F (v := .bool false) rfl fun a F => ?_
  refine rgend ?_
  replace F := F.only [0] (l' := [(0, _)]) rfl
  refine wp_ret ?_
  try dsimp only at h
  obtain rfl := Option.some.inj h
  exact RET _ _ (ret1 F rfl rfl ⟨_, rfl, rfl, H⟩)
 try dsimp only at h
 refine ls (call F Try.func11 (disk_New_ok (H) e2) rfl rfl fun v w hR a F => ?_)
 obtain ⟨g4, rfl, H⟩ := hR
 refine as_ F rfl fun a F => ?_
 refine rgend ?_
 refine wp_seq ?_
 refine rg ?_
 refine mv F rfl fun a F => ?_
 refine qw F (r_peq (F.t 17 rfl) (F.k (.pointer none)) Try.underlying24) fun a F => ?_
 refine rgend ?_
 refine wp_cond_false (F.ev rfl) ?_
 refine wp_skip ?_
 refine rg ?_
 refine mv F rfl fun a F => ?_
 obtain ⟨x5, e6, h⟩ := Option.bind_eq_some_iff.1 h
 try dsimp only at h
 refine ls (call F Try.func13 (store_Open_ok (H) e6) rfl rfl fun v w hR a F => ?_)
 obtain ⟨g7, rfl, H⟩ := hR
 refine as_ F rfl fun a F => ?_
 refine rgend ?_
 replace F := F.only [2, 1] (l' := [(2, _), (1, _)]) rfl
 refine wp_seq ?_
 refine rg ?_
 refine mv F rfl fun a F => ?_
 refine qw F (r_peq (F.t 21 rfl) (F.k (.pointer none)) Try.underlying27) fun a F => ?_
 refine rgend ?_
 refine wp_cond_false (F.ev rfl) ?_
 refine wp_skip ?_
 refine rg ?_
 refine mv F rfl fun a F => ?_
 refine ls (lbs F H (e := 5) (vs := [(0, .int .u8 120)]) (cs := [.int .u8 120]) rfl (fun w => by kernel_rfl) fun g8 w a H F => ?_)
 obtain ⟨_, hr, H⟩ := Hp.mark (kd := kByte) (xs := [120]) (H) (F.t 24 rfl) Try.underlying29 Try.underlying5 ((SayL.cons (kd := kByte) (c1 := [.int .u8 120]) (y := 120) (fun Z hp => ⟨rfl, (by decide)⟩) SayL.nil)) (Nat.le_of_ble_eq_true rfl)
 refine qw F (hr _ _ _ _ _) fun a F => ?_
 obtain ⟨⟨x9, x10, x11⟩, e12, h⟩ := Option.bind_eq_some_iff.1 h
 try dsimp only at h
 refine ls (call F Try.func22 (store_Store_Append_ok (H.p0) e12) rfl rfl fun v w hR a F => ?_)
 obtain ⟨rfl, H⟩ := hR
 refine as_ F rfl fun a F => ?_
 refine rgend ?_
 replace F := F.only [3, 2, 1] (l' := [(3, _), (2, _), (1, _)]) rfl
 refine rg ?_
 refine mv F rfl fun a F => ?_
 refine ls (lbs F H (e := 5) (vs := [(0, .int .u8 111), (1, .int .u8 110), (2, .int .u8 101)]) (cs := [.int .u8 111, .int .u8 110, .int .u8 101]) rfl (fun w => by kernel_rfl) fun g13 w a H F => ?_)
 obtain ⟨_, hr, H⟩ := Hp.mark (kd := kByte) (xs := [111, 110, 101]) (H) (F.t 28 rfl) Try.underlying29 Try.underlying5 ((SayL.cons (kd := kByte) (c1 := [.int .u8 111]) (y := 111) (fun Z hp => ⟨rfl, (by decide)⟩) (SayL.cons (kd := kByte) (c1 := [.int .u8 110]) (y := 110) (fun Z hp => ⟨rfl, (by decide)⟩) (SayL.cons (kd := kByte) (c1 := [.int .u8 101]) (y := 101) (fun Z hp => ⟨rfl, (by decide)⟩) SayL.nil)))) (Nat.le_of_ble_eq_true rfl)
 refine qw F (hr _ _ _ _ _) fun a F => ?_
 replace H := H.nilRd (kSlice kByte)
 obtain ⟨⟨x14, x15, x16⟩, e17, h⟩ := Option.bind_eq_some_iff.1 h
 try dsimp only at h
 refine ls (call F Try.func21 (store_Store_Begin_ok (H.p0.p2) e17) rfl rfl fun v w hR a F => ?_)
 obtain ⟨rfl, H⟩ := hR
 refine as_ F rfl fun a F => ?_
 refine rgend ?_
 replace F := F.only [4, 3, 2, 1] (l' := [(4, _), (3, _), (2, _), (1, _)]) rfl
 refine rg ?_
 refine mv F rfl fun a F => ?_
 refine ls (lbs F H (e := 5) (vs := [(0, .int .u8 120)]) (cs := [.int .u8 120]) rfl (fun w => by kernel_rfl) fun g18 w a H F => ?_)
 obtain ⟨_, hr, H⟩ := Hp.mark (kd := kByte) (xs := [120]) (H) (F.t 32 rfl) Try.underlying29 Try.underlying5 ((SayL.cons (kd := kByte) (c1 := [.int .u8 120]) (y := 120) (fun Z hp => ⟨rfl, (by decide)⟩) SayL.nil)) (Nat.le_of_ble_eq_true rfl)
 refine qw F (hr _ _ _ _ _) fun a F => ?_
 obtain ⟨⟨x19, x20, x21⟩, e22, h⟩ := Option.bind_eq_some_iff.1 h
 try dsimp only at h
 refine ls (call F Try.func22 (store_Store_Append_ok (H.p0) e22) rfl rfl fun v w hR a F => ?_)
 obtain ⟨rfl, H⟩ := hR
 refine as_ F rfl fun a F => ?_
 refine rgend ?_
 replace F := F.only [5, 4, 3, 2, 1] (l' := [(5, _), (4, _), (3, _), (2, _), (1, _)]) rfl
 refine rg ?_
 refine mv F rfl fun a F => ?_
 obtain ⟨⟨x23, x24⟩, e25, h⟩ := Option.bind_eq_some_iff.1 h
 try dsimp only at h
 refine ls (call F Try.func23 (store_Store_Sync_ok (H) e25) rfl rfl fun v w hR a F => ?_)
 obtain ⟨rfl, H⟩ := hR
 refine as_ F rfl fun a F => ?_
 refine rgend ?_
 refine rg ?_
 refine mv F rfl fun a F => ?_
 refine ls (lbs F H (e := 5) (vs := [(0, .int .u8 121)]) (cs := [.int .u8 121]) rfl (fun w => by kernel_rfl) fun g26 w a H F => ?_)
 obtain ⟨_, hr, H⟩ := Hp.mark (kd := kByte) (xs := [121]) (H) (F.t 38 rfl) Try.underlying29 Try.underlying5 ((SayL.cons (kd := kByte) (c1 := [.int .u8 121]) (y := 121) (fun Z hp => ⟨rfl, (by decide)⟩) SayL.nil)) (Nat.le_of_ble_eq_true rfl)
 refine qw F (hr _ _ _ _ _) fun a F => ?_
 obtain ⟨⟨x27, x28, x29⟩, e30, h⟩ := Option.bind_eq_some_iff.1 h
 try dsimp only at h
 refine ls (call F Try.func22 (store_Store_Append_ok (H.p0) e30) rfl rfl fun v w hR a F => ?_)
 obtain ⟨rfl, H⟩ := hR
 refine as_ F rfl fun a F => ?_
 refine rgend ?_
 replace F := F.only [7, 6, 5, 4, 3, 2, 1] (l' := [(7, _), (6, _), (5, _), (4, _), (3, _), (2, _), (1, _)]) rfl
 refine rg ?_
 refine mv F rfl fun a F => ?_
 replace H := H.nilRd kByte
 obtain ⟨⟨x31, x32, x33⟩, e34, h⟩ := Option.bind_eq_some_iff.1 h
 try dsimp only at h
 refine ls (call F Try.func21 (store_Store_Begin_ok (H.p3.p1) e34) rfl rfl fun v w hR a F => ?_)
 obtain ⟨rfl, H⟩ := hR
 refine as_ F rfl fun a F => ?_
 refine rgend ?_
 refine rg ?_
 refine mv F rfl fun a F => ?_
 replace H := H.nilRd kBool
 obtain ⟨x35, e36, h⟩ := Option.bind_eq_some_iff.1 h
 try dsimp only at h
 refine ls (call F Try.func24 (disk_Disk_Crash_ok (H.p0.f1) e36) rfl rfl fun v w hR a F => ?_)
 obtain ⟨rfl, H⟩ := hR
 refine rgend ?_
 replace F := F.only [8, 7, 6, 5, 4, 3, 2, 1] (l' := [(8, _), (7, _), (6, _), (5, _), (4, _), (3, _), (2, _), (1, _)]) rfl
 refine rg ?_
 refine mv F rfl fun a F => ?_
 obtain ⟨x37, e38, h⟩ := Option.bind_eq_some_iff.1 h
 try dsimp only at h
 refine ls (call F Try.func13 (store_Open_ok (H) e38) rfl rfl fun v w hR a F => ?_)
 obtain ⟨g39, rfl, H⟩ := hR
 refine as_ F rfl fun a F => ?_
 refine rgend ?_
 refine wp_seq ?_
 refine rg ?_
 refine mv F rfl fun a F => ?_
 refine qw F (r_peq (F.t 47 rfl) (F.k (.pointer none)) Try.underlying27) fun a F => ?_
 refine rgend ?_
 refine wp_cond_false (F.ev rfl) ?_
 refine wp_skip ?_
 refine rg ?_
 refine mv F rfl fun a F => ?_
 refine ls (lbs F H (e := 5) (vs := [(0, .int .u8 122)]) (cs := [.int .u8 122]) rfl (fun w => by kernel_rfl) fun g40 w a H F => ?_)
 obtain ⟨_, hr, H⟩ := Hp.mark (kd := kByte) (xs := [122]) (H) (F.t 50 rfl) Try.underlying29 Try.underlying5 ((SayL.cons (kd := kByte) (c1 := [.int .u8 122]) (y := 122) (fun Z hp => ⟨rfl, (by decide)⟩) SayL.nil)) (Nat.le_of_ble_eq_true rfl)
 refine qw F (hr _ _ _ _ _) fun a F => ?_
 obtain ⟨⟨x41, x42, x43⟩, e44, h⟩ := Option.bind_eq_some_iff.1 h
 try dsimp only at h
 refine ls (call F Try.func22 (store_Store_Append_ok (H.p0) e44) rfl rfl fun v w hR a F => ?_)
 obtain ⟨rfl, H⟩ := hR
 refine as_ F rfl fun a F => ?_
 refine rgend ?_
 replace F := F.only [10, 9, 8, 7, 6, 5, 4, 3, 2, 1] (l' := [(10, _), (9, _), (8, _), (7, _), (6, _), (5, _), (4, _), (3, _), (2, _), (1, _)]) rfl
 refine rg ?_
 refine mv F rfl fun a F => ?_
 refine ls (lbs F H (e := 5) (vs := [(0, .int .u8 116), (1, .int .u8 119), (2, .int .u8 111)]) (cs := [.int .u8 116, .int .u8 119, .int .u8 111]) rfl (fun w => by kernel_rfl) fun g45 w a H F => ?_)
 obtain ⟨_, hr, H⟩ := Hp.mark (kd := kByte) (xs := [116, 119, 111]) (H) (F.t 54 rfl) Try.underlying29 Try.underlying5 ((SayL.cons (kd := kByte) (c1 := [.int .u8 116]) (y := 116) (fun Z hp => ⟨rfl, (by decide)⟩) (SayL.cons (kd := kByte) (c1 := [.int .u8 119]) (y := 119) (fun Z hp => ⟨rfl, (by decide)⟩) (SayL.cons (kd := kByte) (c1 := [.int .u8 111]) (y := 111) (fun Z hp => ⟨rfl, (by decide)⟩) SayL.nil)))) (Nat.le_of_ble_eq_true rfl)
 refine qw F (hr _ _ _ _ _) fun a F => ?_
 refine ls (lbs F H (e := 5) (vs := [(0, .int .u8 120)]) (cs := [.int .u8 120]) rfl (fun w => by kernel_rfl) fun g46 w a H F => ?_)
 obtain ⟨_, hr, H⟩ := Hp.mark (kd := kByte) (xs := [120]) (H) (F.t 56 rfl) Try.underlying29 Try.underlying5 ((SayL.cons (kd := kByte) (c1 := [.int .u8 120]) (y := 120) (fun Z hp => ⟨rfl, (by decide)⟩) SayL.nil)) (Nat.le_of_ble_eq_true rfl)
 refine qw F (hr _ _ _ _ _) fun a F => ?_
 refine ls (lbs F H (e := 29) (vs := [(0, .slice (some ⟨g46, 0, none⟩) 1 1)]) (cs := [.slice (some ⟨g46, 0, none⟩) 1 1]) rfl (fun w => by kernel_rfl) fun g47 w a H F => ?_)
 replace H := Hp.litRd (kd := (kSlice kByte)) (xs := [[120]]) (H) ((SayL.cons (kd := (kSlice kByte)) (c1 := [.slice (some ⟨g46, 0, none⟩) 1 1]) (y := [120]) (fun Z hp => ⟨(some ⟨g46, 0, none⟩), 1, rfl, pat hp 0 rfl⟩) SayL.nil)) (Nat.le_of_ble_eq_true rfl)
 obtain ⟨⟨x48, x49, x50⟩, e51, h⟩ := Option.bind_eq_some_iff.1 h
 try dsimp only at h
 refine ls (call F Try.func21 (store_Store_Begin_ok (H.p0.p3) e51) rfl rfl fun v w hR a F => ?_)
 obtain ⟨rfl, H⟩ := hR
 refine as_ F rfl fun a F => ?_
 refine rgend ?_
 replace F := F.only [11, 10, 9, 8, 7, 6, 5, 4, 3, 2, 1] (l' := [(11, _), (10, _), (9, _), (8, _), (7, _), (6, _), (5, _), (4, _), (3, _), (2, _), (1, _)]) rfl
 refine rg ?_
 refine mv F rfl fun a F => ?_
 obtain ⟨x52, e53, h⟩ := Option.bind_eq_some_iff.1 h
 try dsimp only at h
 refine ls (call F Try.func20 (store_Store_Gen_ok (H) e53) rfl rfl fun v w hR a F => ?_)
 obtain ⟨rfl, H⟩ := hR
 refine as_ F rfl fun a F => ?_
 refine rgend ?_
 refine rg ?_
 refine mv F rfl fun a F => ?_
 obtain ⟨x54, e55, h⟩ := Option.bind_eq_some_iff.1 h
 try dsimp only at h
 refine ls (call F Try.func35 (disk_Disk_Fuse_ok (H.f2.f1.f2) e55) rfl rfl fun v w hR a F => ?_)
 obtain ⟨rfl, H⟩ := hR
 refine rgend ?_
 replace F := F.only [12, 11, 10, 9, 8, 7, 6, 5, 4, 3, 2, 1] (l' := [(12, _), (11, _), (10, _), (9, _), (8, _), (7, _), (6, _), (5, _), (4, _), (3, _), (2, _), (1, _)]) rfl
 refine rg ?_
 refine mv F rfl fun a F => ?_
 refine ls (lbs F H (e := 5) (vs := [(0, .int .u8 116), (1, .int .u8 104), (2, .int .u8 114), (3, .int .u8 101), (4, .int .u8 101)]) (cs := [.int .u8 116, .int .u8 104, .int .u8 114, .int .u8 101, .int .u8 101]) rfl (fun w => by kernel_rfl) fun g56 w a H F => ?_)
 obtain ⟨_, hr, H⟩ := Hp.mark (kd := kByte) (xs := [116, 104, 114, 101, 101]) (H) (F.t 65 rfl) Try.underlying29 Try.underlying5 ((SayL.cons (kd := kByte) (c1 := [.int .u8 116]) (y := 116) (fun Z hp => ⟨rfl, (by decide)⟩) (SayL.cons (kd := kByte) (c1 := [.int .u8 104]) (y := 104) (fun Z hp => ⟨rfl, (by decide)⟩) (SayL.cons (kd := kByte) (c1 := [.int .u8 114]) (y := 114) (fun Z hp => ⟨rfl, (by decide)⟩) (SayL.cons (kd := kByte) (c1 := [.int .u8 101]) (y := 101) (fun Z hp => ⟨rfl, (by decide)⟩) (SayL.cons (kd := kByte) (c1 := [.int .u8 101]) (y := 101) (fun Z hp => ⟨rfl, (by decide)⟩) SayL.nil)))))) (Nat.le_of_ble_eq_true rfl)
 refine qw F (hr _ _ _ _ _) fun a F => ?_
 refine ls (lbs F H (e := 5) (vs := [(0, .int .u8 113)]) (cs := [.int .u8 113]) rfl (fun w => by kernel_rfl) fun g57 w a H F => ?_)
 obtain ⟨_, hr, H⟩ := Hp.mark (kd := kByte) (xs := [113]) (H) (F.t 67 rfl) Try.underlying29 Try.underlying5 ((SayL.cons (kd := kByte) (c1 := [.int .u8 113]) (y := 113) (fun Z hp => ⟨rfl, (by decide)⟩) SayL.nil)) (Nat.le_of_ble_eq_true rfl)
 refine qw F (hr _ _ _ _ _) fun a F => ?_
 refine ls (lbs F H (e := 29) (vs := [(0, .slice (some ⟨g57, 0, none⟩) 1 1)]) (cs := [.slice (some ⟨g57, 0, none⟩) 1 1]) rfl (fun w => by kernel_rfl) fun g58 w a H F => ?_)
 replace H := Hp.litRd (kd := (kSlice kByte)) (xs := [[113]]) (H) ((SayL.cons (kd := (kSlice kByte)) (c1 := [.slice (some ⟨g57, 0, none⟩) 1 1]) (y := [113]) (fun Z hp => ⟨(some ⟨g57, 0, none⟩), 1, rfl, pat hp 0 rfl⟩) SayL.nil)) (Nat.le_of_ble_eq_true rfl)
 obtain ⟨⟨x59, x60, x61⟩, e62, h⟩ := Option.bind_eq_some_iff.1 h
 try dsimp only at h
 refine ls (call F Try.func21 (store_Store_Begin_ok (H.p0.p3.f2.f1.f2) e62) rfl rfl fun v w hR a F => ?_)
 obtain ⟨rfl, H⟩ := hR
 refine as_ F rfl fun a F => ?_
 refine rgend ?_
 replace F := F.only [13, 12, 11, 10, 9, 8, 7, 6, 5, 4, 3, 2, 1] (l' := [(13, _), (12, _), (11, _), (10, _), (9, _), (8, _), (7, _), (6, _), (5, _), (4, _), (3, _), (2, _), (1, _)]) rfl
 refine rg ?_
 refine mv F rfl fun a F => ?_
 obtain ⟨⟨x63, x64⟩, e65, h⟩ := Option.bind_eq_some_iff.1 h
 try dsimp only at h
 refine ls (call F Try.func23 (store_Store_Sync_ok (H) e65) rfl rfl fun v w hR a F => ?_)
 obtain ⟨rfl, H⟩ := hR
 refine as_ F rfl fun a F => ?_
 refine rgend ?_
 refine rg ?_
 refine mv F rfl fun a F => ?_
 refine ls (lbs F H (e := 4) (vs := [(0, .bool true)]) (cs := [.bool true]) rfl (fun w => by kernel_rfl) fun g66 w a H F => ?_)
 replace H := Hp.litRd (kd := kBool) (xs := [true]) (H) ((SayL.cons (kd := kBool) (c1 := [.bool true]) (y := true) (fun Z hp => rfl) SayL.nil)) (Nat.le_of_ble_eq_true rfl)
 obtain ⟨x67, e68, h⟩ := Option.bind_eq_some_iff.1 h
 try dsimp only at h
 refine ls (call F Try.func24 (disk_Disk_Crash_ok (H.p0.f2.f1.f2) e68) rfl rfl fun v w hR a F => ?_)
 obtain ⟨rfl, H⟩ := hR
 refine rgend ?_
 replace F := F.only [14, 13, 12, 11, 10, 8, 7, 6, 5, 4, 3, 2, 1] (l' := [(14, _), (13, _), (12, _), (11, _), (10, _), (8, _), (7, _), (6, _), (5, _), (4, _), (3, _), (2, _), (1, _)]) rfl
 refine rg ?_
 refine mv F rfl fun a F => ?_
 obtain ⟨x69, e70, h⟩ := Option.bind_eq_some_iff.1 h
 try dsimp only at h
 refine ls (call F Try.func13 (store_Open_ok (H) e70) rfl rfl fun v w hR a F => ?_)
 obtain ⟨g71, rfl, H⟩ := hR
 refine as_ F rfl fun a F => ?_
 refine rgend ?_
 refine wp_seq ?_
 refine rg ?_
 refine mv F rfl fun a F => ?_
 refine qw F (r_peq (F.t 78 rfl) (F.k (.pointer none)) Try.underlying27) fun a F => ?_
 refine rgend ?_
 replace F := F.only [79, 15, 14, 13, 12, 11, 10, 8, 7, 6, 5, 4, 3, 2] (l' := [(79, _), (15, _), (14, _), (13, _), (12, _), (11, _), (10, _), (8, _), (7, _), (6, _), (5, _), (4, _), (3, _), (2, _)]) rfl
 refine wp_cond_false (F.ev rfl) ?_
 refine wp_skip ?_
 refine wp_seq ?_
 obtain ⟨o_72, k_72, h⟩ := Option.bind_eq_some_iff.1 h
 refine cut (fun a w => ∃ (x72 : Bool), x72 = o_72 ∧ Fr 161 [] [(0, .bool x72)] a ∧ Hp w0 ps (obj_store_Store g71 g4 x69 :: obj_store_Store g7 g4 x32 :: obj_store_Store g39 g4 x60 :: obj_disk_Disk g4 x67 :: fs) w) ?_ ?_
 ·skip
  refine wp_region_lit ?_
  refine mv F rfl fun a F => ?_
  refine qw F (r_eq (F.t 80 rfl) (F.k (.int .i64 43))) fun a F => ?_
  refine mv F rfl fun a F => ?_
  by_cases c74 : x9 = 43
  ·rw [if_pos c74] at k_72
   rw [decide_eq_true c74] at F
   refine mv F rfl fun a F => ?_
   refine qw F (r_eq (F.t 83 rfl) (F.k (.int .i64 0))) fun a F => ?_
   refine qw F (r_pickT (F.t 82 rfl) (F.t 84 rfl)) fun a F => ?_
   refine mv F rfl fun a F => ?_
   by_cases c75 : x14 = 0
   ·rw [if_pos c75] at k_72
    rw [decide_eq_true c75] at F
    refine mv F rfl fun a F => ?_
    refine qw F (r_eq (F.t 87 rfl) (F.k (.int .i64 0))) fun a F => ?_
    refine qw F (r_pickT (F.t 86 rfl) (F.t 88 rfl)) fun a F => ?_
    refine mv F rfl fun a F => ?_
    by_cases c76 : x19 = 0
    ·rw [if_pos c76] at k_72
     rw [decide_eq_true c76] at F
     refine mv F rfl fun a F => ?_
     refine qw F (r_eq (F.t 91 rfl) (F.k (.int .i64 0))) fun a F => ?_
     refine qw F (r_pickT (F.t 90 rfl) (F.t 92 rfl)) fun a F => ?_
     refine mv F rfl fun a F => ?_
     by_cases c77 : x23 = 0
     ·rw [if_pos c77] at k_72
      rw [decide_eq_true c77] at F
      refine mv F rfl fun a F => ?_
      refine qw F (r_eq (F.t 95 rfl) (F.k (.int .i64 0))) fun a F => ?_
      refine qw F (r_pickT (F.t 94 rfl) (F.t 96 rfl)) fun a F => ?_
      refine mv F rfl fun a F => ?_
      by_cases c78 : x27 = 0
      ·rw [if_pos c78] at k_72
       rw [decide_eq_true c78] at F
       refine mv F rfl fun a F => ?_
       refine qw F (r_eq (F.t 99 rfl) (F.k (.int .i64 1))) fun a F => ?_
       refine qw F (r_pickT (F.t 98 rfl) (F.t 100 rfl)) fun a F => ?_
       refine mv F rfl fun a F => ?_
       by_cases c79 : x31 = 1
       ·rw [if_pos c79] at k_72
        rw [decide_eq_true c79] at F
        refine mv F rfl fun a F => ?_
        refine qw F (r_eq (F.t 103 rfl) (F.k (.int .i64 43))) fun a F => ?_
        refine qw F (r_pickT (F.t 102 rfl) (F.t 104 rfl)) fun a F => ?_
        refine mv F rfl fun a F => ?_
        by_cases c80 : x41 = 43
        ·rw [if_pos c80] at k_72
         rw [decide_eq_true c80] at F
         refine mv F rfl fun a F => ?_
         refine qw F (r_eq (F.t 107 rfl) (F.k (.int .i64 0))) fun a F => ?_
         refine qw F (r_pickT (F.t 106 rfl) (F.t 108 rfl)) fun a F => ?_
         refine mv F rfl fun a F => ?_
         by_cases c81 : x48 = 0
         ·rw [if_pos c81] at k_72
          rw [decide_eq_true c81] at F
          refine mv F rfl fun a F => ?_
          refine qw F (r_eq (F.t 111 rfl) (F.k (.int .i64 2))) fun a F => ?_
          refine qw F (r_pickT (F.t 110 rfl) (F.t 112 rfl)) fun a F => ?_
          refine mv F rfl fun a F => ?_
          by_cases c82 : x52 = 2
          ·rw [if_pos c82] at k_72
           rw [decide_eq_true c82] at F
           refine mv F rfl fun a F => ?_
           refine qw F (r_eq (F.t 115 rfl) (F.k (.int .i64 42))) fun a F => ?_
           refine qw F (r_pickT (F.t 114 rfl) (F.t 116 rfl)) fun a F => ?_
           refine mv F rfl fun a F => ?_
           by_cases c83 : x59 = 42
           ·rw [if_pos c83] at k_72
            rw [decide_eq_true c83] at F
            refine mv F rfl fun a F => ?_
            refine qw F (r_eq (F.t 119 rfl) (F.k (.int .i64 43))) fun a F => ?_
            refine qw F (r_pickT (F.t 118 rfl) (F.t 120 rfl)) fun a F => ?_
            refine mv F rfl fun a F => ?_
            by_cases c84 : x63 = 43
            ·rw [if_pos c84] at k_72
             rw [decide_eq_true c84] at F
             refine mv F rfl fun a F => ?_
             obtain ⟨x85, e86, k_72⟩ := Option.bind_eq_some_iff.1 k_72
             try dsimp only at k_72
             refine ls (call F Try.func17 (store_Store_State_ok (H.f2.f2.f2.f3) e86) rfl rfl fun v w hR a F => ?_)
             obtain ⟨A87, c88, rfl, H⟩ := hR
             replace H := (H).freeze
             have hb89 := H.bytes 0 rfl
             refine qw F (H.str 0 rfl (F.t 124 rfl) Try.underlying29 Try.underlying5 Try.underlying9) fun a F => ?_
             refine qw F (r_seq (F.t 125 rfl) (F.ev (x := .const (.string (strOf ([111, 110, 101])))) rfl) hb89 (by unfold Bytes; decide)) fun a F => ?_
             refine qw F (r_pickT (F.t 122 rfl) (F.t 126 rfl)) fun a F => ?_
             refine mv F rfl fun a F => ?_
             by_cases c90 : x85 = [111, 110, 101]
             ·rw [if_pos c90] at k_72
              rw [decide_eq_true c90] at F
              refine mv F rfl fun a F => ?_
              obtain ⟨x91, e92, k_72⟩ := Option.bind_eq_some_iff.1 k_72
              try dsimp only at k_72
              refine ls (call F Try.func15 (store_Store_Entries_ok (H) e92) rfl rfl fun v w hR a F => ?_)
              obtain ⟨A93, c94, rfl, H⟩ := hR
              refine ls (lbs F H (e := 5) (vs := [(0, .int .u8 120)]) (cs := [.int .u8 120]) rfl (fun w => by kernel_rfl) fun g95 w a H F => ?_)
              obtain ⟨_, hr, H⟩ := Hp.mark (kd := kByte) (xs := [120]) (H) (F.t 131 rfl) Try.underlying29 Try.underlying5 ((SayL.cons (kd := kByte) (c1 := [.int .u8 120]) (y := 120) (fun Z hp => ⟨rfl, (by decide)⟩) SayL.nil)) (Nat.le_of_ble_eq_true rfl)
              refine qw F (hr _ _ _ _ _) fun a F => ?_
              refine ls (lbs F H (e := 5) (vs := [(0, .int .u8 121)]) (cs := [.int .u8 121]) rfl (fun w => by kernel_rfl) fun g96 w a H F => ?_)
              obtain ⟨_, hr, H⟩ := Hp.mark (kd := kByte) (xs := [121]) (H) (F.t 133 rfl) Try.underlying29 Try.underlying5 ((SayL.cons (kd := kByte) (c1 := [.int .u8 121]) (y := 121) (fun Z hp => ⟨rfl, (by decide)⟩) SayL.nil)) (Nat.le_of_ble_eq_true rfl)
              refine qw F (hr _ _ _ _ _) fun a F => ?_
              refine ls (lbs F H (e := 29) (vs := [(0, .slice (some ⟨g95, 0, none⟩) 1 1), (1, .slice (some ⟨g96, 0, none⟩) 1 1)]) (cs := [.slice (some ⟨g95, 0, none⟩) 1 1, .slice (some ⟨g96, 0, none⟩) 1 1]) rfl (fun w => by kernel_rfl) fun g97 w a H F => ?_)
              replace H := (H.f5.f5.f5.f5.f4.f5).freeze
              replace H := Hp.litRd (kd := (kSlice kByte)) (xs := [[120], [121]]) (H) ((SayL.cons (kd := (kSlice kByte)) (c1 := [.slice (some ⟨g95, 0, none⟩) 1 1]) (y := [120]) (fun Z hp => ⟨(some ⟨g95, 0, none⟩), 1, rfl, pat hp 2 rfl⟩) (SayL.cons (kd := (kSlice kByte)) (c1 := [.slice (some ⟨g96, 0, none⟩) 1 1]) (y := [121]) (fun Z hp => ⟨(some ⟨g96, 0, none⟩), 1, rfl, pat hp 1 rfl⟩) SayL.nil))) (Nat.le_of_ble_eq_true rfl)
              obtain ⟨x98, e99, k_72⟩ := Option.bind_eq_some_iff.1 k_72
              try dsimp only at k_72
              refine ls (call F Try.func19 (ref17_SameRows_ok (H.p0.p2) e99) rfl rfl fun v w hR a F => ?_)
              obtain ⟨rfl, H⟩ := hR
              refine qw F (r_pickT (F.t 128 rfl) (F.t 136 rfl)) fun a F => ?_
              refine mv F rfl fun a F => ?_
              by_cases c100 : x98 = true
              ·rw [if_pos c100] at k_72
               rw [c100] at F
               refine mv F rfl fun a F => ?_
               obtain ⟨x101, e102, k_72⟩ := Option.bind_eq_some_iff.1 k_72
               try dsimp only at k_72
               refine ls (call F Try.func17 (store_Store_State_ok (H.f3.f3.f2.f3) e102) rfl rfl fun v w hR a F => ?_)
               obtain ⟨A103, c104, rfl, H⟩ := hR
               replace H := (H).freeze
               have hb105 := H.bytes 0 rfl
               refine qw F (H.str 0 rfl (F.t 140 rfl) Try.underlying29 Try.underlying5 Try.underlying9) fun a F => ?_
               refine qw F (r_seq (F.t 141 rfl) (F.ev (x := .const (.string (strOf ([116, 119, 111])))) rfl) hb105 (by unfold Bytes; decide)) fun a F => ?_
               refine qw F (r_pickT (F.t 138 rfl) (F.t 142 rfl)) fun a F => ?_
               refine mv F rfl fun a F => ?_
               by_cases c106 : x101 = [116, 119, 111]
               ·rw [if_pos c106] at k_72
                rw [decide_eq_true c106] at F
                refine mv F rfl fun a F => ?_
                obtain ⟨x107, e108, k_72⟩ := Option.bind_eq_some_iff.1 k_72
                try dsimp only at k_72
                refine ls (call F Try.func20 (store_Store_Gen_ok (H) e108) rfl rfl fun v w hR a F => ?_)
                obtain ⟨rfl, H⟩ := hR
                refine qw F (r_eq (F.t 146 rfl) (F.k (.int .i64 2))) fun a F => ?_
                refine qw F (r_pickT (F.t 144 rfl) (F.t 147 rfl)) fun a F => ?_
                refine mv F rfl fun a F => ?_
                by_cases c109 : x107 = 2
                ·rw [if_pos c109] at k_72
                 rw [decide_eq_true c109] at F
                 refine mv F rfl fun a F => ?_
                 obtain ⟨x110, e111, k_72⟩ := Option.bind_eq_some_iff.1 k_72
                 try dsimp only at k_72
                 refine ls (call F Try.func15 (store_Store_Entries_ok (H) e111) rfl rfl fun v w hR a F => ?_)
                 obtain ⟨A112, c113, rfl, H⟩ := hR
                 refine ls (lbs F H (e := 5) (vs := [(0, .int .u8 120)]) (cs := [.int .u8 120]) rfl (fun w => by kernel_rfl) fun g114 w a H F => ?_)
                 obtain ⟨_, hr, H⟩ := Hp.mark (kd := kByte) (xs := [120]) (H) (F.t 152 rfl) Try.underlying29 Try.underlying5 ((SayL.cons (kd := kByte) (c1 := [.int .u8 120]) (y := 120) (fun Z hp => ⟨rfl, (by decide)⟩) SayL.nil)) (Nat.le_of_ble_eq_true rfl)
                 refine qw F (hr _ _ _ _ _) fun a F => ?_
                 refine ls (lbs F H (e := 29) (vs := [(0, .slice (some ⟨g114, 0, none⟩) 1 1)]) (cs := [.slice (some ⟨g114, 0, none⟩) 1 1]) rfl (fun w => by kernel_rfl) fun g115 w a H F => ?_)
                 replace H := (H.f5.f5.f5.f5.f4.f5).freeze
                 replace H := Hp.litRd (kd := (kSlice kByte)) (xs := [[120]]) (H) ((SayL.cons (kd := (kSlice kByte)) (c1 := [.slice (some ⟨g114, 0, none⟩) 1 1]) (y := [120]) (fun Z hp => ⟨(some ⟨g114, 0, none⟩), 1, rfl, pat hp 1 rfl⟩) SayL.nil)) (Nat.le_of_ble_eq_true rfl)
                 obtain ⟨x116, e117, k_72⟩ := Option.bind_eq_some_iff.1 k_72
                 try dsimp only at k_72
                 refine ls (call F Try.func19 (ref17_SameRows_ok (H.p0.p2) e117) rfl rfl fun v w hR a F => ?_)
                 obtain ⟨rfl, H⟩ := hR
                 refine qw F (r_pickT (F.t 149 rfl) (F.t 155 rfl)) fun a F => ?_
                 refine mv F rfl fun a F => ?_
                 by_cases c118 : x116 = true
                 ·rw [if_pos c118] at k_72
                  rw [c118] at F
                  refine mv F rfl fun a F => ?_
                  obtain ⟨x119, e120, k_72⟩ := Option.bind_eq_some_iff.1 k_72
                  try dsimp only at k_72
                  refine ls (call F Try.func16 (store_Store_Has_ok (H) e120) rfl rfl fun v w hR a F => ?_)
                  obtain ⟨rfl, H⟩ := hR
                  refine qw F (r_pickT (F.t 157 rfl) (F.t 159 rfl)) fun a F => ?_
                  refine as_ F rfl fun a F => ?_
                  refine wpList_nil ?_
                  replace F := F.only [0] (l' := [(0, _)]) rfl
                  try dsimp only at k_72
                  obtain rfl := Option.some.inj k_72
                  exact ⟨_, rfl, F.only [0] rfl, H.px23.px22.px21.px20.px19.px18.px17.px16.px15.px14.px13.px12.px11.px10.px9.px8.px7.px6.px5.px4.px3.px2.px1.px0.f2.f3.f3.f3⟩
                 rw [if_neg c118] at k_72
                 rw [Bool.eq_false_iff.2 c118] at F
                 iterate 2 refine of_ F fun a F => ?_
                 refine qw F (r_pickF (F.t 157 rfl) (F.k (.bool false))) fun a F => ?_
                 refine as_ F rfl fun a F => ?_
                 refine wpList_nil ?_
                 replace F := F.only [0] (l' := [(0, _)]) rfl
                 try dsimp only at k_72
                 obtain rfl := Option.some.inj k_72
                 exact ⟨_, rfl, F.only [0] rfl, H.px23.px22.px21.px20.px19.px18.px17.px16.px15.px14.px13.px12.px11.px10.px9.px8.px7.px6.px5.px4.px3.px2.px1.px0.f2.f3.f3.f3⟩
                rw [if_neg c109] at k_72
                rw [decide_eq_false c109] at F
                iterate 6 refine of_ F fun a F => ?_
                refine qw F (r_pickF (F.t 149 rfl) (F.k (.bool false))) fun a F => ?_
                refine mv F rfl fun a F => ?_
                iterate 2 refine of_ F fun a F => ?_
                refine qw F (r_pickF (F.t 157 rfl) (F.k (.bool false))) fun a F => ?_
                refine as_ F rfl fun a F => ?_
                refine wpList_nil ?_
                replace F := F.only [0] (l' := [(0, _)]) rfl
                try dsimp only at k_72
                obtain rfl := Option.some.inj k_72
                exact ⟨_, rfl, F.only [0] rfl, H.px20.px19.px18.px17.px16.px15.px14.px13.px12.px11.px10.px9.px8.px7.px6.px5.px4.px3.px2.px1.px0.f2.f3.f3.f3⟩
               rw [if_neg c106] at k_72
               rw [decide_eq_false c106] at F
               iterate 3 refine of_ F fun a F => ?_
               refine qw F (r_pickF (F.t 144 rfl) (F.k (.bool false))) fun a F => ?_
               refine mv F rfl fun a F => ?_
               iterate 6 refine of_ F fun a F => ?_
               refine qw F (r_pickF (F.t 149 rfl) (F.k (.bool false))) fun a F => ?_
               refine mv F rfl fun a F => ?_
               iterate 2 refine of_ F fun a F => ?_
               refine qw F (r_pickF (F.t 157 rfl) (F.k (.bool false))) fun a F => ?_
               refine as_ F rfl fun a F => ?_
               refine wpList_nil ?_
               replace F := F.only [0] (l' := [(0, _)]) rfl
               try dsimp only at k_72
               obtain rfl := Option.some.inj k_72
               exact ⟨_, rfl, F.only [0] rfl, H.px20.px19.px18.px17.px16.px15.px14.px13.px12.px11.px10.px9.px8.px7.px6.px5.px4.px3.px2.px1.px0.f2.f3.f3.f3⟩
              rw [if_neg c100] at k_72
              rw [Bool.eq_false_iff.2 c100] at F
              iterate 4 refine of_ F fun a F => ?_
              refine qw F (r_pickF (F.t 138 rfl) (F.k (.bool false))) fun a F => ?_
              refine mv F rfl fun a F => ?_
              iterate 3 refine of_ F fun a F => ?_
              refine qw F (r_pickF (F.t 144 rfl) (F.k (.bool false))) fun a F => ?_
              refine mv F rfl fun a F => ?_
              iterate 6 refine of_ F fun a F => ?_
              refine qw F (r_pickF (F.t 149 rfl) (F.k (.bool false))) fun a F => ?_
              refine mv F rfl fun a F => ?_
              iterate 2 refine of_ F fun a F => ?_
              refine qw F (r_pickF (F.t 157 rfl) (F.k (.bool false))) fun a F => ?_
              refine as_ F rfl fun a F => ?_
              refine wpList_nil ?_
              replace F := F.only [0] (l' := [(0, _)]) rfl
              try dsimp only at k_72
              obtain rfl := Option.some.inj k_72
              exact ⟨_, rfl, F.only [0] rfl, H.px19.px18.px17.px16.px15.px14.px13.px12.px11.px10.px9.px8.px7.px6.px5.px4.px3.px2.px1.px0.f2.f3.f2.f3⟩
             rw [if_neg c90] at k_72
             rw [decide_eq_false c90] at F
             iterate 8 refine of_ F fun a F => ?_
             refine qw F (r_pickF (F.t 128 rfl) (F.k (.bool false))) fun a F => ?_
             refine mv F rfl fun a F => ?_
             iterate 4 refine of_ F fun a F => ?_
             refine qw F (r_pickF (F.t 138 rfl) (F.k (.bool false))) fun a F => ?_
             refine mv F rfl fun a F => ?_
             iterate 3 refine of_ F fun a F => ?_
             refine qw F (r_pickF (F.t 144 rfl) (F.k (.bool false))) fun a F => ?_
             refine mv F rfl fun a F => ?_
             iterate 6 refine of_ F fun a F => ?_
             refine qw F (r_pickF (F.t 149 rfl) (F.k (.bool false))) fun a F => ?_
             refine mv F rfl fun a F => ?_
             iterate 2 refine of_ F fun a F => ?_
             refine qw F (r_pickF (F.t 157 rfl) (F.k (.bool false))) fun a F => ?_
             refine as_ F rfl fun a F => ?_
             refine wpList_nil ?_
             replace F := F.only [0] (l' := [(0, _)]) rfl
             try dsimp only at k_72
             obtain rfl := Option.some.inj k_72
             exact ⟨_, rfl, F.only [0] rfl, H.px15.px14.px13.px12.px11.px10.px9.px8.px7.px6.px5.px4.px3.px2.px1.px0.f2.f3.f2.f3⟩
            rw [if_neg c84] at k_72
            rw [decide_eq_false c84] at F
            iterate 4 refine of_ F fun a F => ?_
            refine qw F (r_pickF (F.t 122 rfl) (F.k (.bool false))) fun a F => ?_
            refine mv F rfl fun a F => ?_
            iterate 8 refine of_ F fun a F => ?_
            refine qw F (r_pickF (F.t 128 rfl) (F.k (.bool false))) fun a F => ?_
            refine mv F rfl fun a F => ?_
            iterate 4 refine of_ F fun a F => ?_
            refine qw F (r_pickF (F.t 138 rfl) (F.k (.bool false))) fun a F => ?_
            refine mv F rfl fun a F => ?_
            iterate 3 refine of_ F fun a F => ?_
            refine qw F (r_pickF (F.t 144 rfl) (F.k (.bool false))) fun a F => ?_
            refine mv F rfl fun a F => ?_
            iterate 6 refine of_ F fun a F => ?_
            refine qw F (r_pickF (F.t 149 rfl) (F.k (.bool false))) fun a F => ?_
            refine mv F rfl fun a F => ?_
            iterate 2 refine of_ F fun a F => ?_
            refine qw F (r_pickF (F.t 157 rfl) (F.k (.bool false))) fun a F => ?_
            refine as_ F rfl fun a F => ?_
            refine wpList_nil ?_
            replace F := F.only [0] (l' := [(0, _)]) rfl
            try dsimp only at k_72
            obtain rfl := Option.some.inj k_72
            exact ⟨_, rfl, F.only [0] rfl, H.px14.px13.px12.px11.px10.px9.px8.px7.px6.px5.px4.px3.px2.px1.px0.f1.f2.f3.f3⟩
           rw [if_neg c83] at k_72
           rw [decide_eq_false c83] at F
           iterate 2 refine of_ F fun a F => ?_
           refine qw F (r_pickF (F.t 118 rfl) (F.k (.bool false))) fun a F => ?_
           refine mv F rfl fun a F => ?_
           iterate 4 refine of_ F fun a F => ?_
           refine qw F (r_pickF (F.t 122 rfl) (F.k (.bool false))) fun a F => ?_
           refine mv F rfl fun a F => ?_
           iterate 8 refine of_ F fun a F => ?_
           refine qw F (r_pickF (F.t 128 rfl) (F.k (.bool false))) fun a F => ?_
           refine mv F rfl fun a F => ?_
           iterate 4 refine of_ F fun a F => ?_
           refine qw F (r_pickF (F.t 138 rfl) (F.k (.bool false))) fun a F => ?_
           refine mv F rfl fun a F => ?_
           iterate 3 refine of_ F fun a F => ?_
           refine qw F (r_pickF (F.t 144 rfl) (F.k (.bool false))) fun a F => ?_
           refine mv F rfl fun a F => ?_
           iterate 6 refine of_ F fun a F => ?_
           refine qw F (r_pickF (F.t 149 rfl) (F.k (.bool false))) fun a F => ?_
           refine mv F rfl fun a F => ?_
           iterate 2 refine of_ F fun a F => ?_
           refine qw F (r_pickF (F.t 157 rfl) (F.k (.bool false))) fun a F => ?_
           refine as_ F rfl fun a F => ?_
           refine wpList_nil ?_
           replace F := F.only [0] (l' := [(0, _)]) rfl
           try dsimp only at k_72
           obtain rfl := Option.some.inj k_72
           exact ⟨_, rfl, F.only [0] rfl, H.px14.px13.px12.px11.px10.px9.px8.px7.px6.px5.px4.px3.px2.px1.px0.f1.f2.f3.f3⟩
          rw [if_neg c82] at k_72
          rw [decide_eq_false c82] at F
          iterate 2 refine of_ F fun a F => ?_
          refine qw F (r_pickF (F.t 114 rfl) (F.k (.bool false))) fun a F => ?_
          refine mv F rfl fun a F => ?_
          iterate 2 refine of_ F fun a F => ?_
          refine qw F (r_pickF (F.t 118 rfl) (F.k (.bool false))) fun a F => ?_
          refine mv F rfl fun a F => ?_
          iterate 4 refine of_ F fun a F => ?_
          refine qw F (r_pickF (F.t 122 rfl) (F.k (.bool false))) fun a F => ?_
          refine mv F rfl fun a F => ?_
          iterate 8 refine of_ F fun a F => ?_
          refine qw F (r_pickF (F.t 128 rfl) (F.k (.bool false))) fun a F => ?_
          refine mv F rfl fun a F => ?_
          iterate 4 refine of_ F fun a F => ?_
          refine qw F (r_pickF (F.t 138 rfl) (F.k (.bool false))) fun a F => ?_
          refine mv F rfl fun a F => ?_
          iterate 3 refine of_ F fun a F => ?_
          refine qw F (r_pickF (F.t 144 rfl) (F.k (.bool false))) fun a F => ?_
          refine mv F rfl fun a F => ?_
          iterate 6 refine of_ F fun a F => ?_
          refine qw F (r_pickF (F.t 149 rfl) (F.k (.bool false))) fun a F => ?_
          refine mv F rfl fun a F => ?_
          iterate 2 refine of_ F fun a F => ?_
          refine qw F (r_pickF (F.t 157 rfl) (F.k (.bool false))) fun a F => ?_
          refine as_ F rfl fun a F => ?_
          refine wpList_nil ?_
          replace F := F.only [0] (l' := [(0, _)]) rfl
          try dsimp only at k_72
          obtain rfl := Option.some.inj k_72
          exact ⟨_, rfl, F.only [0] rfl, H.px14.px13.px12.px11.px10.px9.px8.px7.px6.px5.px4.px3.px2.px1.px0.f1.f2.f3.f3⟩
         rw [if_neg c81] at k_72
         rw [decide_eq_false c81] at F
         iterate 2 refine of_ F fun a F => ?_
         refine qw F (r_pickF (F.t 110 rfl) (F.k (.bool false))) fun a F => ?_
         refine mv F rfl fun a F => ?_
         iterate 2 refine of_ F fun a F => ?_
         refine qw F (r_pickF (F.t 114 rfl) (F.k (.bool false))) fun a F => ?_
         refine mv F rfl fun a F => ?_
         iterate 2 refine of_ F fun a F => ?_
         refine qw F (r_pickF (F.t 118 rfl) (F.k (.bool false))) fun a F => ?_
         refine mv F rfl fun a F => ?_
         iterate 4 refine of_ F fun a F => ?_
         refine qw F (r_pickF (F.t 122 rfl) (F.k (.bool false))) fun a F => ?_
         refine mv F rfl fun a F => ?_
         iterate 8 refine of_ F fun a F => ?_
         refine qw F (r_pickF (F.t 128 rfl) (F.k (.bool false))) fun a F => ?_
         refine mv F rfl fun a F => ?_
         iterate 4 refine of_ F fun a F => ?_
         refine qw F (r_pickF (F.t 138 rfl) (F.k (.bool false))) fun a F => ?_
         refine mv F rfl fun a F => ?_
         iterate 3 refine of_ F fun a F => ?_
         refine qw F (r_pickF (F.t 144 rfl) (F.k (.bool false))) fun a F => ?_
         refine mv F rfl fun a F => ?_
         iterate 6 refine of_ F fun a F => ?_
         refine qw F (r_pickF (F.t 149 rfl) (F.k (.bool false))) fun a F => ?_
         refine mv F rfl fun a F => ?_
         iterate 2 refine of_ F fun a F => ?_
         refine qw F (r_pickF (F.t 157 rfl) (F.k (.bool false))) fun a F => ?_
         refine as_ F rfl fun a F => ?_
         refine wpList_nil ?_
         replace F := F.only [0] (l' := [(0, _)]) rfl
         try dsimp only at k_72
         obtain rfl := Option.some.inj k_72
         exact ⟨_, rfl, F.only [0] rfl, H.px14.px13.px12.px11.px10.px9.px8.px7.px6.px5.px4.px3.px2.px1.px0.f1.f2.f3.f3⟩
        rw [if_neg c80] at k_72
        rw [decide_eq_false c80] at F
        iterate 2 refine of_ F fun a F => ?_
        refine qw F (r_pickF (F.t 106 rfl) (F.k (.bool false))) fun a F => ?_
        refine mv F rfl fun a F => ?_
        iterate 2 refine of_ F fun a F => ?_
        refine qw F (r_pickF (F.t 110 rfl) (F.k (.bool false))) fun a F => ?_
        refine mv F rfl fun a F => ?_
        iterate 2 refine of_ F fun a F => ?_
        refine qw F (r_pickF (F.t 114 rfl) (F.k (.bool false))) fun a F => ?_
        refine mv F rfl fun a F => ?_
        iterate 2 refine of_ F fun a F => ?_
        refine qw F (r_pickF (F.t 118 rfl) (F.k (.bool false))) fun a F => ?_
        refine mv F rfl fun a F => ?_
        iterate 4 refine of_ F fun a F => ?_
        refine qw F (r_pickF (F.t 122 rfl) (F.k (.bool false))) fun a F => ?_
        refine mv F rfl fun a F => ?_
        iterate 8 refine of_ F fun a F => ?_
        refine qw F (r_pickF (F.t 128 rfl) (F.k (.bool false))) fun a F => ?_
        refine mv F rfl fun a F => ?_
        iterate 4 refine of_ F fun a F => ?_
        refine qw F (r_pickF (F.t 138 rfl) (F.k (.bool false))) fun a F => ?_
        refine mv F rfl fun a F => ?_
        iterate 3 refine of_ F fun a F => ?_
        refine qw F (r_pickF (F.t 144 rfl) (F.k (.bool false))) fun a F => ?_
        refine mv F rfl fun a F => ?_
        iterate 6 refine of_ F fun a F => ?_
        refine qw F (r_pickF (F.t 149 rfl) (F.k (.bool false))) fun a F => ?_
        refine mv F rfl fun a F => ?_
        iterate 2 refine of_ F fun a F => ?_
        refine qw F (r_pickF (F.t 157 rfl) (F.k (.bool false))) fun a F => ?_
        refine as_ F rfl fun a F => ?_
        refine wpList_nil ?_
        replace F := F.only [0] (l' := [(0, _)]) rfl
        try dsimp only at k_72
        obtain rfl := Option.some.inj k_72
        exact ⟨_, rfl, F.only [0] rfl, H.px14.px13.px12.px11.px10.px9.px8.px7.px6.px5.px4.px3.px2.px1.px0.f1.f2.f3.f3⟩
       rw [if_neg c79] at k_72
       rw [decide_eq_false c79] at F
       iterate 2 refine of_ F fun a F => ?_
       refine qw F (r_pickF (F.t 102 rfl) (F.k (.bool false))) fun a F => ?_
       refine mv F rfl fun a F => ?_
       iterate 2 refine of_ F fun a F => ?_
       refine qw F (r_pickF (F.t 106 rfl) (F.k (.bool false))) fun a F => ?_
       refine mv F rfl fun a F => ?_
       iterate 2 refine of_ F fun a F => ?_
       refine qw F (r_pickF (F.t 110 rfl) (F.k (.bool false))) fun a F => ?_
       refine mv F rfl fun a F => ?_
       iterate 2 refine of_ F fun a F => ?_
       refine qw F (r_pickF (F.t 114 rfl) (F.k (.bool false))) fun a F => ?_
       refine mv F rfl fun a F => ?_
       iterate 2 refine of_ F fun a F => ?_
       refine qw F (r_pickF (F.t 118 rfl) (F.k (.bool false))) fun a F => ?_
       refine mv F rfl fun a F => ?_
       iterate 4 refine of_ F fun a F => ?_
       refine qw F (r_pickF (F.t 122 rfl) (F.k (.bool false))) fun a F => ?_
       refine mv F rfl fun a F => ?_
       iterate 8 refine of_ F fun a F => ?_
       refine qw F (r_pickF (F.t 128 rfl) (F.k (.bool false))) fun a F => ?_
       refine mv F rfl fun a F => ?_
       iterate 4 refine of_ F fun a F => ?_
       refine qw F (r_pickF (F.t 138 rfl) (F.k (.bool false))) fun a F => ?_
       refine mv F rfl fun a F => ?_
       iterate 3 refine of_ F fun a F => ?_
       refine qw F (r_pickF (F.t 144 rfl) (F.k (.bool false))) fun a F => ?_
       refine mv F rfl fun a F => ?_
       iterate 6 refine of_ F fun a F => ?_
       refine qw F (r_pickF (F.t 149 rfl) (F.k (.bool false))) fun a F => ?_
       refine mv F rfl fun a F => ?_
       iterate 2 refine of_ F fun a F => ?_
       refine qw F (r_pickF (F.t 157 rfl) (F.k (.bool false))) fun a F => ?_
       refine as_ F rfl fun a F => ?_
       refine wpList_nil ?_
       replace F := F.only [0] (l' := [(0, _)]) rfl
       try dsimp only at k_72
       obtain rfl := Option.some.inj k_72
       exact ⟨_, rfl, F.only [0] rfl, H.px14.px13.px12.px11.px10.px9.px8.px7.px6.px5.px4.px3.px2.px1.px0.f1.f2.f3.f3⟩
      rw [if_neg c78] at k_72
      rw [decide_eq_false c78] at F
      iterate 2 refine of_ F fun a F => ?_
      refine qw F (r_pickF (F.t 98 rfl) (F.k (.bool false))) fun a F => ?_
      refine mv F rfl fun a F => ?_
      iterate 2 refine of_ F fun a F => ?_
      refine qw F (r_pickF (F.t 102 rfl) (F.k (.bool false))) fun a F => ?_
      refine mv F rfl fun a F => ?_
      iterate 2 refine of_ F fun a F => ?_
      refine qw F (r_pickF (F.t 106 rfl) (F.k (.bool false))) fun a F => ?_
      refine mv F rfl fun a F => ?_
      iterate 2 refine of_ F fun a F => ?_
      refine qw F (r_pickF (F.t 110 rfl) (F.k (.bool false))) fun a F => ?_
      refine mv F rfl fun a F => ?_
      iterate 2 refine of_ F fun a F => ?_
      refine qw F (r_pickF (F.t 114 rfl) (F.k (.bool false))) fun a F => ?_
      refine mv F rfl fun a F => ?_
      iterate 2 refine of_ F fun a F => ?_
      refine qw F (r_pickF (F.t 118 rfl) (F.k (.bool false))) fun a F => ?_
      refine mv F rfl fun a F => ?_
      iterate 4 refine of_ F fun a F => ?_
      refine qw F (r_pickF (F.t 122 rfl) (F.k (.bool false))) fun a F => ?_
      refine mv F rfl fun a F => ?_
      iterate 8 refine of_ F fun a F => ?_
      refine qw F (r_pickF (F.t 128 rfl) (F.k (.bool false))) fun a F => ?_
      refine mv F rfl fun a F => ?_
      iterate 4 refine of_ F fun a F => ?_
      refine qw F (r_pickF (F.t 138 rfl) (F.k (.bool false))) fun a F => ?_
      refine mv F rfl fun a F => ?_
      iterate 3 refine of_ F fun a F => ?_
      refine qw F (r_pickF (F.t 144 rfl) (F.k (.bool false))) fun a F => ?_
      refine mv F rfl fun a F => ?_
      iterate 6 refine of_ F fun a F => ?_
      refine qw F (r_pickF (F.t 149 rfl) (F.k (.bool false))) fun a F => ?_
      refine mv F rfl fun a F => ?_
      iterate 2 refine of_ F fun a F => ?_
      refine qw F (r_pickF (F.t 157 rfl) (F.k (.bool false))) fun a F => ?_
      refine as_ F rfl fun a F => ?_
      refine wpList_nil ?_
      replace F := F.only [0] (l' := [(0, _)]) rfl
      try dsimp only at k_72
      obtain rfl := Option.some.inj k_72
      exact ⟨_, rfl, F.only [0] rfl, H.px14.px13.px12.px11.px10.px9.px8.px7.px6.px5.px4.px3.px2.px1.px0.f1.f2.f3.f3⟩
     rw [if_neg c77] at k_72
     rw [decide_eq_false c77] at F
     iterate 2 refine of_ F fun a F => ?_
     refine qw F (r_pickF (F.t 94 rfl) (F.k (.bool false))) fun a F => ?_
     refine mv F rfl fun a F => ?_
     iterate 2 refine of_ F fun a F => ?_
     refine qw F (r_pickF (F.t 98 rfl) (F.k (.bool false))) fun a F => ?_
     refine mv F rfl fun a F => ?_
     iterate 2 refine of_ F fun a F => ?_
     refine qw F (r_pickF (F.t 102 rfl) (F.k (.bool false))) fun a F => ?_
     refine mv F rfl fun a F => ?_
     iterate 2 refine of_ F fun a F => ?_
     refine qw F (r_pickF (F.t 106 rfl) (F.k (.bool false))) fun a F => ?_
     refine mv F rfl fun a F => ?_
     iterate 2 refine of_ F fun a F => ?_
     refine qw F (r_pickF (F.t 110 rfl) (F.k (.bool false))) fun a F => ?_
     refine mv F rfl fun a F => ?_
     iterate 2 refine of_ F fun a F => ?_
     refine qw F (r_pickF (F.t 114 rfl) (F.k (.bool false))) fun a F => ?_
     refine mv F rfl fun a F => ?_
     iterate 2 refine of_ F fun a F => ?_
     refine qw F (r_pickF (F.t 118 rfl) (F.k (.bool false))) fun a F => ?_
     refine mv F rfl fun a F => ?_
     iterate 4 refine of_ F fun a F => ?_
     refine qw F (r_pickF (F.t 122 rfl) (F.k (.bool false))) fun a F => ?_
     refine mv F rfl fun a F => ?_
     iterate 8 refine of_ F fun a F => ?_
     refine qw F (r_pickF (F.t 128 rfl) (F.k (.bool false))) fun a F => ?_
     refine mv F rfl fun a F => ?_
     iterate 4 refine of_ F fun a F => ?_
     refine qw F (r_pickF (F.t 138 rfl) (F.k (.bool false))) fun a F => ?_
     refine mv F rfl fun a F => ?_
     iterate 3 refine of_ F fun a F => ?_
     refine qw F (r_pickF (F.t 144 rfl) (F.k (.bool false))) fun a F => ?_
     refine mv F rfl fun a F => ?_
     iterate 6 refine of_ F fun a F => ?_
     refine qw F (r_pickF (F.t 149 rfl) (F.k (.bool false))) fun a F => ?_
     refine mv F rfl fun a F => ?_
     iterate 2 refine of_ F fun a F => ?_
     refine qw F (r_pickF (F.t 157 rfl) (F.k (.bool false))) fun a F => ?_
     refine as_ F rfl fun a F => ?_
     refine wpList_nil ?_
     replace F := F.only [0] (l' := [(0, _)]) rfl
     try dsimp only at k_72
     obtain rfl := Option.some.inj k_72
     exact ⟨_, rfl, F.only [0] rfl, H.px14.px13.px12.px11.px10.px9.px8.px7.px6.px5.px4.px3.px2.px1.px0.f1.f2.f3.f3⟩
    rw [if_neg c76] at k_72
    rw [decide_eq_false c76] at F
    iterate 2 refine of_ F fun a F => ?_
    refine qw F (r_pickF (F.t 90 rfl) (F.k (.bool false))) fun a F => ?_
    refine mv F rfl fun a F => ?_
    iterate 2 refine of_ F fun a F => ?_
    refine qw F (r_pickF (F.t 94 rfl) (F.k (.bool false))) fun a F => ?_
    refine mv F rfl fun a F => ?_
    iterate 2 refine of_ F fun a F => ?_
    refine qw F (r_pickF (F.t 98 rfl) (F.k (.bool false))) fun a F => ?_
    refine mv F rfl fun a F => ?_
    iterate 2 refine of_ F fun a F => ?_
    refine qw F (r_pickF (F.t 102 rfl) (F.k (.bool false))) fun a F => ?_
    refine mv F rfl fun a F => ?_
    iterate 2 refine of_ F fun a F => ?_
    refine qw F (r_pickF (F.t 106 rfl) (F.k (.bool false))) fun a F => ?_
    refine mv F rfl fun a F => ?_
    iterate 2 refine of_ F fun a F => ?_
    refine qw F (r_pickF (F.t 110 rfl) (F.k (.bool false))) fun a F => ?_
    refine mv F rfl fun a F => ?_
    iterate 2 refine of_ F fun a F => ?_
    refine qw F (r_pickF (F.t 114 rfl) (F.k (.bool false))) fun a F => ?_
    refine mv F rfl fun a F => ?_
    iterate 2 refine of_ F fun a F => ?_
    refine qw F (r_pickF (F.t 118 rfl) (F.k (.bool false))) fun a F => ?_
    refine mv F rfl fun a F => ?_
    iterate 4 refine of_ F fun a F => ?_
    refine qw F (r_pickF (F.t 122 rfl) (F.k (.bool false))) fun a F => ?_
    refine mv F rfl fun a F => ?_
    iterate 8 refine of_ F fun a F => ?_
    refine qw F (r_pickF (F.t 128 rfl) (F.k (.bool false))) fun a F => ?_
    refine mv F rfl fun a F => ?_
    iterate 4 refine of_ F fun a F => ?_
    refine qw F (r_pickF (F.t 138 rfl) (F.k (.bool false))) fun a F => ?_
    refine mv F rfl fun a F => ?_
    iterate 3 refine of_ F fun a F => ?_
    refine qw F (r_pickF (F.t 144 rfl) (F.k (.bool false))) fun a F => ?_
    refine mv F rfl fun a F => ?_
    iterate 6 refine of_ F fun a F => ?_
    refine qw F (r_pickF (F.t 149 rfl) (F.k (.bool false))) fun a F => ?_
    refine mv F rfl fun a F => ?_
    iterate 2 refine of_ F fun a F => ?_
    refine qw F (r_pickF (F.t 157 rfl) (F.k (.bool false))) fun a F => ?_
    refine as_ F rfl fun a F => ?_
    refine wpList_nil ?_
    replace F := F.only [0] (l' := [(0, _)]) rfl
    try dsimp only at k_72
    obtain rfl := Option.some.inj k_72
    exact ⟨_, rfl, F.only [0] rfl, H.px14.px13.px12.px11.px10.px9.px8.px7.px6.px5.px4.px3.px2.px1.px0.f1.f2.f3.f3⟩
   rw [if_neg c75] at k_72
   rw [decide_eq_false c75] at F
   iterate 2 refine of_ F fun a F => ?_
   refine qw F (r_pickF (F.t 86 rfl) (F.k (.bool false))) fun a F => ?_
   refine mv F rfl fun a F => ?_
   iterate 2 refine of_ F fun a F => ?_
   refine qw F (r_pickF (F.t 90 rfl) (F.k (.bool false))) fun a F => ?_
   refine mv F rfl fun a F => ?_
   iterate 2 refine of_ F fun a F => ?_
   refine qw F (r_pickF (F.t 94 rfl) (F.k (.bool false))) fun a F => ?_
   refine mv F rfl fun a F => ?_
   iterate 2 refine of_ F fun a F => ?_
   refine qw F (r_pickF (F.t 98 rfl) (F.k (.bool false))) fun a F => ?_
   refine mv F rfl fun a F => ?_
   iterate 2 refine of_ F fun a F => ?_
   refine qw F (r_pickF (F.t 102 rfl) (F.k (.bool false))) fun a F => ?_
   refine mv F rfl fun a F => ?_
   iterate 2 refine of_ F fun a F => ?_
   refine qw F (r_pickF (F.t 106 rfl) (F.k (.bool false))) fun a F => ?_
   refine mv F rfl fun a F => ?_
   iterate 2 refine of_ F fun a F => ?_
   refine qw F (r_pickF (F.t 110 rfl) (F.k (.bool false))) fun a F => ?_
   refine mv F rfl fun a F => ?_
   iterate 2 refine of_ F fun a F => ?_
   refine qw F (r_pickF (F.t 114 rfl) (F.k (.bool false))) fun a F => ?_
   refine mv F rfl fun a F => ?_
   iterate 2 refine of_ F fun a F => ?_
   refine qw F (r_pickF (F.t 118 rfl) (F.k (.bool false))) fun a F => ?_
   refine mv F rfl fun a F => ?_
   iterate 4 refine of_ F fun a F => ?_
   refine qw F (r_pickF (F.t 122 rfl) (F.k (.bool false))) fun a F => ?_
   refine mv F rfl fun a F => ?_
   iterate 8 refine of_ F fun a F => ?_
   refine qw F (r_pickF (F.t 128 rfl) (F.k (.bool false))) fun a F => ?_
   refine mv F rfl fun a F => ?_
   iterate 4 refine of_ F fun a F => ?_
   refine qw F (r_pickF (F.t 138 rfl) (F.k (.bool false))) fun a F => ?_
   refine mv F rfl fun a F => ?_
   iterate 3 refine of_ F fun a F => ?_
   refine qw F (r_pickF (F.t 144 rfl) (F.k (.bool false))) fun a F => ?_
   refine mv F rfl fun a F => ?_
   iterate 6 refine of_ F fun a F => ?_
   refine qw F (r_pickF (F.t 149 rfl) (F.k (.bool false))) fun a F => ?_
   refine mv F rfl fun a F => ?_
   iterate 2 refine of_ F fun a F => ?_
   refine qw F (r_pickF (F.t 157 rfl) (F.k (.bool false))) fun a F => ?_
   refine as_ F rfl fun a F => ?_
   refine wpList_nil ?_
   replace F := F.only [0] (l' := [(0, _)]) rfl
   try dsimp only at k_72
   obtain rfl := Option.some.inj k_72
   exact ⟨_, rfl, F.only [0] rfl, H.px14.px13.px12.px11.px10.px9.px8.px7.px6.px5.px4.px3.px2.px1.px0.f1.f2.f3.f3⟩
  rw [if_neg c74] at k_72
  rw [decide_eq_false c74] at F
  iterate 2 refine of_ F fun a F => ?_
  refine qw F (r_pickF (F.t 82 rfl) (F.k (.bool false))) fun a F => ?_
  refine mv F rfl fun a F => ?_
  iterate 2 refine of_ F fun a F => ?_
  refine qw F (r_pickF (F.t 86 rfl) (F.k (.bool false))) fun a F => ?_
  refine mv F rfl fun a F => ?_
  iterate 2 refine of_ F fun a F => ?_
  refine qw F (r_pickF (F.t 90 rfl) (F.k (.bool false))) fun a F => ?_
  refine mv F rfl fun a F => ?_
  iterate 2 refine of_ F fun a F => ?_
  refine qw F (r_pickF (F.t 94 rfl) (F.k (.bool false))) fun a F => ?_
  refine mv F rfl fun a F => ?_
  iterate 2 refine of_ F fun a F => ?_
  refine qw F (r_pickF (F.t 98 rfl) (F.k (.bool false))) fun a F => ?_
  refine mv F rfl fun a F => ?_
  iterate 2 refine of_ F fun a F => ?_
  refine qw F (r_pickF (F.t 102 rfl) (F.k (.bool false))) fun a F => ?_
  refine mv F rfl fun a F => ?_
  iterate 2 refine of_ F fun a F => ?_
  refine qw F (r_pickF (F.t 106 rfl) (F.k (.bool false))) fun a F => ?_
  refine mv F rfl fun a F => ?_
  iterate 2 refine of_ F fun a F => ?_
  refine qw F (r_pickF (F.t 110 rfl) (F.k (.bool false))) fun a F => ?_
  refine mv F rfl fun a F => ?_
  iterate 2 refine of_ F fun a F => ?_
  refine qw F (r_pickF (F.t 114 rfl) (F.k (.bool false))) fun a F => ?_
  refine mv F rfl fun a F => ?_
  iterate 2 refine of_ F fun a F => ?_
  refine qw F (r_pickF (F.t 118 rfl) (F.k (.bool false))) fun a F => ?_
  refine mv F rfl fun a F => ?_
  iterate 4 refine of_ F fun a F => ?_
  refine qw F (r_pickF (F.t 122 rfl) (F.k (.bool false))) fun a F => ?_
  refine mv F rfl fun a F => ?_
  iterate 8 refine of_ F fun a F => ?_
  refine qw F (r_pickF (F.t 128 rfl) (F.k (.bool false))) fun a F => ?_
  refine mv F rfl fun a F => ?_
  iterate 4 refine of_ F fun a F => ?_
  refine qw F (r_pickF (F.t 138 rfl) (F.k (.bool false))) fun a F => ?_
  refine mv F rfl fun a F => ?_
  iterate 3 refine of_ F fun a F => ?_
  refine qw F (r_pickF (F.t 144 rfl) (F.k (.bool false))) fun a F => ?_
  refine mv F rfl fun a F => ?_
  iterate 6 refine of_ F fun a F => ?_
  refine qw F (r_pickF (F.t 149 rfl) (F.k (.bool false))) fun a F => ?_
  refine mv F rfl fun a F => ?_
  iterate 2 refine of_ F fun a F => ?_
  refine qw F (r_pickF (F.t 157 rfl) (F.k (.bool false))) fun a F => ?_
  refine as_ F rfl fun a F => ?_
  refine wpList_nil ?_
  replace F := F.only [0] (l' := [(0, _)]) rfl
  try dsimp only at k_72
  obtain rfl := Option.some.inj k_72
  exact ⟨_, rfl, F.only [0] rfl, H.px14.px13.px12.px11.px10.px9.px8.px7.px6.px5.px4.px3.px2.px1.px0.f1.f2.f3.f3⟩
 rintro a w ⟨x72, rfl, F, H⟩
 try dsimp only at h F H
 refine wp_ret ?_
 try dsimp only at h
 obtain rfl := Option.some.inj h
 exact RET _ _ (ret1 F rfl rfl ⟨_, rfl, rfl, H.fx3.fx2.fx1.fx0⟩)
end Go.Proofs.Ytpmkpiffbdcflaa
