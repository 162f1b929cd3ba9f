/- Appending so many zeros; arrays of bytes. -/
import Derived.Test.YtpmkpiffbdcflaaCelG
set_option linter.unusedVariables false
set_option linter.unusedSimpArgs false
namespace Go.Proofs.Ytpmkpiffbdcflaa
open Go Go.RowKit
section
variable {P : Program} {ρ : Operand → Value} {d : Option Tmp} {ty : TypeId} {pos : String} {af : Array Edge} {gd : Option (Nat × Bool)} {w w0 : World} {ps : List PF} {fs : List SF}
theorem w64h {x : Int} (h0 : 0 ≤ x) (h1 : x < 9223372036854775808) : IntKind.i64.wrap x = x := by
  rw [IntKind.wrap_i64]
  omega
theorem zc_nil (z : Array Value) : Builtin.zeroCells z 0 = #[] := by simp [Builtin.zeroCells]
theorem apz_room (t ti tp e : TypeId) (i : TypeInfo) (z : Value) (ht : P.underlying t = some (.slice e)) (hti : P.underlying ti = some (.int .i64)) (hi : P.info? e = some i) (hz : i.zero = some z) (hzs : z.cells.size = i.size) (hs0 : 0 < i.size)
    (g sLen sCap : Nat) (cur : Array Value) (hg : w.heap[g]? = some (.cells cur e (0, 0))) (n : Nat) (h1 : ∀ u ∈ (Builtin.zeroCells z.cells n).toList, u.oneCell' = true) (h63 : (n : Int) < 9223372036854775808) (h48 : n * i.bytes ≤ 281474976710656)
    (hroom : sLen + n ≤ sCap) (hfit : sLen * i.size + n * i.size ≤ cur.size) :
    (Builtin.append_ #[t, ti] tp #[.slice (some ⟨g, 0, none⟩) sLen sCap, .int .i64 n]).run P w =
      .ok (.slice (some ⟨g, 0, none⟩) (sLen + n) sCap) (w.setRow g (cur.toList.take (sLen * i.size) ++ (Builtin.zeroCells z.cells n).toList ++ cur.toList.drop (sLen * i.size + n * i.size)).toArray) := by
  have hl : (Builtin.zeroCells z.cells n).toList.length = n * i.size := by rw [Array.length_toList, size_zeroCells, hzs]
  have hst := run_storeCells_at P g (sLen * i.size) e (Builtin.zeroCells z.cells n).toList 0 cur w hg (by rw [hl]; simpa using hfit) h1
  simp only [Nat.add_zero, hl] at hst
  have hw : IntKind.i64.wrap (n : Int) = n := w64h (by omega) h63
  have h48i : (n : Int) * (i.bytes : Int) ≤ 281474976710656 := by
    have h : ((n * i.bytes : Nat) : Int) ≤ 281474976710656 := by omega
    rw [Int.natCast_mul] at h
    exact h
  have h48' : ¬ ((281474976710656 : Int) < (n : Int) * (i.bytes : Int)) := by omega
  have hneg : ¬ ((n : Int) < 0) := by omega
  by_cases hn : n = 0
  · subst hn
    have hw0 : IntKind.i64.wrap 0 = 0 := by decide
    have hr0 : sLen ≤ sCap := by omega
    simp [Builtin.append_, run_underlying ht, run_underlying hti, sizeOf, typeInfo, zeroValue, hi, hz, asInt, asIntOf, hw0, hr0, Addr.add_lit, zc_nil, storeCells] at hst ⊢
    exact hst
  · have hn2 : ¬ (n = 0 ∨ i.size = 0) := by omega
    simp [Builtin.append_, run_underlying ht, run_underlying hti, sizeOf, typeInfo, zeroValue, hi, hz, asInt, asIntOf, hw, h48', hneg, hroom, Addr.add_lit, hn2, hst]
    intro h
    exact absurd (Nat.mul_eq_zero.1 h) hn2
theorem apz_nil (t ti tp e : TypeId) (i : TypeInfo) (z : Value) (ht : P.underlying t = some (.slice e)) (hti : P.underlying ti = some (.int .i64)) (hi : P.info? e = some i) (hz : i.zero = some z) (hzs : z.cells.size = i.size) (hs0 : 0 < i.size)
    (n : Nat) (h0 : 0 < n) (h63 : (n : Int) < 9223372036854775808) (h48 : n * i.bytes ≤ 281474976710656) :
    (Builtin.append_ #[t, ti] tp #[.slice none 0 0, .int .i64 n]).run P w =
      .ok (.slice (some ⟨w.heap.size, 0, none⟩) n (grownCap w n 0 e)) (w.drew.alloc (.cells (Builtin.zeroCells z.cells n ++ Builtin.zeroCells z.cells (grownCap w n 0 e - n)) e)) := by
  have hw : IntKind.i64.wrap (n : Int) = n := w64h (by omega) h63
  have h48i : (n : Int) * (i.bytes : Int) ≤ 281474976710656 := by
    have h : ((n * i.bytes : Nat) : Int) ≤ 281474976710656 := by omega
    rw [Int.natCast_mul] at h
    exact h
  have h48' : ¬ ((281474976710656 : Int) < (n : Int) * (i.bytes : Int)) := by omega
  have hneg : ¬ ((n : Int) < 0) := by omega
  have hn : n ≠ 0 := by omega
  have hn2 : ¬ (n = 0 ∨ i.size = 0) := by omega
  have hmax : max (n : Int) 0 = n := by omega
  have h63' : ¬ (9223372036854775807 < (n : Int)) := by omega
  have h48'' : ¬ (281474976710656 < Builtin.nextslicecap n 0 * i.bytes) := by rw [nextslicecap_zero h0]; omega
  simp [Builtin.append_, run_underlying ht, run_underlying hti, sizeOf, typeInfo, zeroValue, hi, hz, asInt, asIntOf, hw, h48', hneg, hn, h63', h48'', hmax, Question.forced, run_firstCells_none, newRow, grownCap, hn2]
  intro h
  exact absurd (Nat.mul_eq_zero.1 h) hn2
theorem apz_grow (t ti tp e : TypeId) (i : TypeInfo) (z : Value) (ht : P.underlying t = some (.slice e)) (hti : P.underlying ti = some (.int .i64)) (hi : P.info? e = some i) (hz : i.zero = some z) (hzs : z.cells.size = i.size) (hs0 : 0 < i.size)
    (b : Addr) (sLen sCap : Nat) (olds : List Value) (hlo : olds.length = sLen * i.size) (holds : ∀ j v, olds[j]? = some v → w.cell? (b.add j) = some v)
    (n : Nat) (hg : sCap < sLen + n) (h63 : ((sLen + n : Nat) : Int) ≤ 9223372036854775807) (h48 : n * i.bytes ≤ 281474976710656) (hfit : Builtin.nextslicecap (sLen + n) sCap * i.bytes ≤ 281474976710656) (hn : n ≠ 0) :
    (Builtin.append_ #[t, ti] tp #[.slice (some b) sLen sCap, .int .i64 n]).run P w =
      .ok (.slice (some ⟨w.heap.size, 0, none⟩) (sLen + n) (grownCap w (sLen + n) sCap e))
        (w.drew.alloc (.cells (olds.toArray ++ Builtin.zeroCells z.cells n ++ Builtin.zeroCells z.cells (grownCap w (sLen + n) sCap e - (sLen + n))) e)) := by
  have hw : IntKind.i64.wrap (n : Int) = n := w64h (by omega) (by omega)
  have h48i : (n : Int) * (i.bytes : Int) ≤ 281474976710656 := by
    have h : ((n * i.bytes : Nat) : Int) ≤ 281474976710656 := by omega
    rw [Int.natCast_mul] at h
    exact h
  have h48' : ¬ ((281474976710656 : Int) < (n : Int) * (i.bytes : Int)) := by omega
  have hneg : ¬ ((n : Int) < 0) := by omega
  have hn2 : ¬ (n = 0 ∨ i.size = 0) := by omega
  have hmax : max (n : Int) 0 = n := by omega
  have hroom : ¬ (sLen + n ≤ sCap) := by omega
  have h63' : ¬ (9223372036854775807 < ((sLen : Int) + (n : Int))) := by omega
  have h48'' : ¬ (281474976710656 < Builtin.nextslicecap (sLen + n) sCap * i.bytes) := by omega
  have hfo := run_firstCells_some (P := P) w.drew i.size sLen b sLen sCap olds hlo (by simpa using holds)
  simp [Builtin.append_, run_underlying ht, run_underlying hti, sizeOf, typeInfo, zeroValue, hi, hz, asInt, asIntOf, hw, h48', hneg, hroom, h63', h48'', hmax, Question.forced, hfo, newRow, grownCap, hn2]
  intro h
  exact absurd (Nat.mul_eq_zero.1 h) hn2
theorem run_apz_own (t ti tp e : TypeId) (i : TypeInfo) (z : Value) (size bytes : Nat) (ht : P.underlying t = some (.slice e)) (hti : P.underlying ti = some (.int .i64)) (hi : P.info? e = some i) (hz : i.zero = some z)
    (hsize : i.size = size) (hby : i.bytes = bytes) (hzs : z.cells.size = size) (hsz : 0 < size) (hb0 : 0 < bytes)
    (v : Value) (n : Nat) (xs : List Value) (hown : w.ownsRow 0 e size v n xs) (m : Nat) (h1 : ∀ u ∈ (Builtin.zeroCells z.cells m).toList, u.oneCell' = true) (hbytes : (n + m) * bytes ≤ 140737488355328) :
    ∃ v' w', (Builtin.append_ #[t, ti] tp #[v, .int .i64 m]).run P w = .ok v' w' ∧ w'.ownsRow 0 e size v' (n + m) (xs ++ (Builtin.zeroCells z.cells m).toList) ∧ w.grownBy w' v.ownBlock ∧ (v'.ownBlock = v.ownBlock ∨ v'.ownBlock = some w.heap.size) := by
  subst hsize
  subst hby
  have hsmall : n + m ≤ 140737488355328 := Nat.le_trans (Nat.le_mul_of_pos_right _ hb0) hbytes
  have h63 : n + m ≤ maxLen := by simp only [maxLen]; omega
  have hmb : m * i.bytes ≤ 281474976710656 := by
    have := Nat.mul_le_mul_right i.bytes (Nat.le_add_left m n)
    omega
  have hl : (Builtin.zeroCells z.cells m).toList.length = m * i.size := by rw [Array.length_toList, size_zeroCells, hzs]
  have hlen : (xs ++ (Builtin.zeroCells z.cells m).toList).length = (n + m) * i.size := by rw [List.length_append, hown.1, hl, Nat.add_mul]
  have grown : ∀ (old : Nat), ∀ (row : Option Nat),
      (w.drew.alloc (.cells (xs.toArray ++ Builtin.zeroCells z.cells m ++ Builtin.zeroCells z.cells (grownCap w (n + m) old e - (n + m))) e)).ownsRow 0 e i.size
        (.slice (some ⟨w.heap.size, 0, none⟩) (n + m) (grownCap w (n + m) old e)) (n + m) (xs ++ (Builtin.zeroCells z.cells m).toList) ∧
      w.grownBy (w.drew.alloc (.cells (xs.toArray ++ Builtin.zeroCells z.cells m ++ Builtin.zeroCells z.cells (grownCap w (n + m) old e - (n + m))) e)) row := by
    intro old row
    have hge := grownCap_ge w (n + m) old e
    have hcm : grownCap w (n + m) old e ≤ maxLen := grownCap_le_maxLen w (n + m) old e h63
    refine ⟨⟨hlen, .inr ⟨w.heap.size, _, _, rfl, Nat.zero_le _, heap_alloc_new w.drew _, hge, hcm, ?_, ?_⟩⟩, ⟨rfl, rfl, rfl, by simp, fun k hk _ => heap_alloc_old w.drew _ k hk⟩⟩
    · simp only [Array.size_append, List.size_toArray, size_zeroCells, hzs, hown.1, ← Nat.add_mul]
      congr 1
      omega
    · simp only [Array.toList_append, List.append_assoc]
      rw [← List.append_assoc, ← hlen]
      exact List.take_left
  rcases hown.2 with ⟨rfl, rfl⟩ | ⟨g, cap, cur, rfl, hbg, hg, hnc, hcm, hcs, htake⟩
  · have hx : xs = [] := List.eq_nil_of_length_eq_zero (by simpa using hown.1)
    subst hx
    by_cases hm : m = 0
    · subst hm
      refine ⟨.slice none 0 0, w, ?_, ?_, ⟨rfl, rfl, rfl, Nat.le_refl _, fun _ _ _ => rfl⟩, Or.inl rfl⟩
      · have hw0 : IntKind.i64.wrap 0 = 0 := by decide
        simp [Builtin.append_, run_underlying ht, run_underlying hti, sizeOf, typeInfo, hi, asInt, asIntOf, hw0]
      · rw [zc_nil]; exact World.ownsRow_nil w 0 e i.size
    · have hr := apz_nil (P := P) (w := w) t ti tp e i z ht hti hi hz hzs hsz m (by omega) (by omega) hmb
      have hgr := grown 0 (Value.ownBlock (.slice none 0 0))
      simp only [Nat.zero_add, List.nil_append, Array.empty_append] at hgr ⊢
      exact ⟨_, _, hr, hgr.1, hgr.2, Or.inr rfl⟩
  · by_cases hroom : n + m ≤ cap
    · have hfit : n * i.size + m * i.size ≤ cur.size := by rw [hcs, ← Nat.add_mul]; exact Nat.mul_le_mul_right _ hroom
      have hr := apz_room (P := P) (w := w) t ti tp e i z ht hti hi hz hzs hsz g n cap cur hg m h1 (by omega) hmb hroom hfit
      refine ⟨_, _, hr, ⟨hlen, .inr ⟨g, cap, _, rfl, hbg, setRow_heap w g cur _ e _ hg, hroom, hcm, ?_, ?_⟩⟩, ⟨rfl, rfl, rfl, by simp, fun k _ hk => setRow_other w g k _ (fun e => hk (by simp [Value.ownBlock, e]))⟩, Or.inl rfl⟩
      · simp only [List.size_toArray, List.length_append, List.length_take, List.length_drop, Array.length_toList, hl] at *
        omega
      · rw [htake, ← hlen]
        exact List.take_left
    · have holds : ∀ j u, xs[j]? = some u → w.cell? ((⟨g, 0, none⟩ : Addr).add j) = some u := hown.cells (g := g) rfl
      have hr := apz_grow (P := P) (w := w) t ti tp e i z ht hti hi hz hzs hsz ⟨g, 0, none⟩ n cap xs hown.1 holds m (by omega) (by omega) hmb (growslice_fits (by omega) hbytes) (by omega)
      have hgr := grown cap (Value.ownBlock (.slice (some ⟨g, 0, none⟩) n cap))
      exact ⟨_, _, hr, hgr.1, hgr.2, Or.inr rfl⟩
/-- What is behind a growth of a row of one's own. -/
theorem Hp.grown {α : Type} {kd : Kd α} {e : TypeId} {A : Option Addr} {c : Nat} {xs ys : List α} {R : Value → World → Prop} (H : Hp w0 ps (own kd e A c xs :: fs) w) (news : List Value) (hnl : news.length = ys.length * kd.sz)
    (hstep : ∀ cs0, w.ownsRow 0 e kd.sz (.slice A xs.length c) xs.length cs0 → ∃ v' w', R v' w' ∧ w'.ownsRow 0 e kd.sz v' (xs.length + ys.length) (cs0 ++ news) ∧ w.grownBy w' (Value.slice A xs.length c).ownBlock ∧ (v'.ownBlock = (Value.slice A xs.length c).ownBlock ∨ v'.ownBlock = some w.heap.size))
    (hsay : ∀ Z, (∀ p ∈ ps, p.p Z w) → ∀ j (h : j < ys.length), kd.ok Z w ((news.drop (j * kd.sz)).take kd.sz) ys[j]) :
    ∃ A' c' w', R (.slice A' (xs ++ ys).length c') w' ∧ Hp w0 ps (own kd e A' c' (xs ++ ys) :: fs) w' := by
  obtain ⟨Z0, H0⟩ := id H
  obtain ⟨U0, _, ⟨_, cs0, hown0, hbl0, hok0⟩, _⟩ := H0.sep
  obtain ⟨v', w', hrun, hown', hgr, hat⟩ := hstep cs0 hown0
  obtain ⟨A', c', rfl⟩ : ∃ A' c', v' = .slice A' (xs ++ ys).length c' := by
    rcases hown'.2 with ⟨rfl, h0⟩ | ⟨g, cap, cur, rfl, _⟩
    · exact ⟨none, 0, by rw [List.length_append, h0]⟩
    · exact ⟨_, cap, by rw [List.length_append]⟩
  refine ⟨A', c', w', hrun, H.turn (Fs := [own kd e A c xs]) [] [own kd e A' c' (xs ++ ys)] hgr.os hgr.tape hgr.output hgr.size ?_⟩
  rintro Z T ⟨U, hU, ⟨hUA, cs, hown, hbl, hok⟩, _⟩ ht' hz' htz hps
  have hcs : cs = cs0 := by
    rcases hown.2 with ⟨hv, hn⟩ | ⟨g, cap, cur, hv, _, hh, _, _, _, hcur⟩
    · have h1 := hown.1; have h2 := hown0.1; rw [hn, Nat.zero_mul] at h1 h2
      rw [List.eq_nil_of_length_eq_zero h1, List.eq_nil_of_length_eq_zero h2]
    · rcases hown0.2 with ⟨hv0, hn⟩ | ⟨g0, cap0, cur0, hv0, _, hh0, _, _, _, hcur0⟩
      · have h1 := hown.1; have h2 := hown0.1; rw [hn, Nat.zero_mul] at h1 h2
        rw [List.eq_nil_of_length_eq_zero h1, List.eq_nil_of_length_eq_zero h2]
      · rw [hv] at hv0
        injection hv0 with hA _ _
        injection hA with hA
        injection hA with hA
        subst hA
        rw [hh] at hh0
        injection hh0 with hh0
        injection hh0 with hh0
        rw [← hcur, ← hcur0, hh0]
  subst hcs
  have hsame : ∀ b, b < w.heap.size → ¬ T b → w'.heap[b]? = w.heap[b]? := fun b hb hnT => hgr.block b hb fun e => hnT (hU b (hbl b e.symm))
  have hZs : Same Z w w' := fun b hb => hsame b (hz' b hb) fun hT => htz b hT hb
  refine ⟨hsame, Z, fun b => (Value.slice A' (xs ++ ys).length c').ownBlock = some b, fun _ h => h, fun b h hn => absurd h hn, fun b hb => ?_, ⟨fun b => (Value.slice A' (xs ++ ys).length c').ownBlock = some b, fun _ h => h, ⟨fun b hb => ?_, cs ++ news, (by have h5 := hown'; rw [List.length_append] at h5 ⊢; exact h5), fun g hg => hg, fun j hj => ?_⟩, trivial⟩, fun _ h => by cases h⟩
  · have hlt := hown'.lt b (by simpa [List.length_append] using hb)
    rcases hat with hat | hat
    · have hUb : U b := hbl b (by rw [← hat]; simpa [List.length_append] using hb)
      exact ⟨.inl (hU b hUb), htz b (hU b hUb), hlt.2⟩
    · have hbe : b = w.heap.size := by
        have h2 : (Value.slice A' (xs ++ ys).length c').ownBlock = some w.heap.size := by simpa [List.length_append] using hat
        rw [hb] at h2
        injection h2
      exact ⟨.inr (by omega), fun h => absurd (hz' _ h) (by omega), hlt.2⟩
  · cases A' with
    | none => simp [Value.ownBlock] at hb
    | some a => rcases hown'.2 with ⟨hv, _⟩ | ⟨g, cap, cur, hv, _⟩
                · cases hv
                · injection hv with hA _ _
                  injection hA with hA
                  subst hA
                  have : g = b := by simpa [Value.ownBlock] using hb
                  subst this
                  exact ⟨0, rfl⟩
  · rcases Nat.lt_or_ge j xs.length with hlt | hge
    · rw [List.getElem_append_left hlt]
      have hle : j * kd.sz + kd.sz ≤ cs.length := by rw [hown.1, ← Nat.succ_mul]; exact Nat.mul_le_mul_right _ hlt
      rw [List.drop_append_of_le_length (by omega), List.take_append_of_le_length (by rw [List.length_drop]; omega)]
      exact kd.stb (hok j hlt) (fun _ h => h) hZs
    · have hjy : j - xs.length < ys.length := by rw [List.length_append] at hj; omega
      rw [List.getElem_append_right hge]
      have hd : (cs ++ news).drop (j * kd.sz) = news.drop ((j - xs.length) * kd.sz) := by
        have : j * kd.sz = cs.length + (j - xs.length) * kd.sz := by rw [hown.1, ← Nat.add_mul]; congr 1; omega
        rw [this, List.drop_append]
        simp
      rw [hd]
      exact kd.stb (hsay Z hps _ hjy) (fun _ h => h) hZs
theorem zc_one (z : Value) (n : Nat) : (Builtin.zeroCells #[z] n).toList = List.replicate n z := by
  simp [Builtin.zeroCells]
  apply List.ext_getElem
  · simp
  · intro i h1 h2
    simp
    have : i % 1 = 0 := Nat.mod_one i
    simp [this]
/-- 'append(row, make(row, m)...)'. -/
theorem Hp.appendZ {α : Type} {kd : Kd α} {e t ti : TypeId} {z : Value} {bytes : Nat} {A : Option Addr} {c : Nat} {xs : List α} {x y : Operand} {m : Int} {zx : α} (H : Hp w0 ps (own kd e A c xs :: fs) w) (hx : ρ x = .slice A xs.length c) (hy : ρ y = .int .i64 m) (ht : P.underlying t = some (.slice e)) (hti' : P.underlying ti = some (.int .i64)) (hti : TI P e z 1 bytes) (hzc : z.cells = #[z]) (hk : kd.sz = 1) (hby : 0 < bytes) (h0 : 0 ≤ m) (hb : (xs.length + m.toNat) * bytes ≤ 140737488355328) (hz1 : z.oneCell' = true) (hsay : ∀ Z w, kd.ok Z w [z] zx) :
    ∃ A' c' w', (∀ (d : Option Tmp) (ty : TypeId) (pos : String) (af : Array Edge) (gd : Option (Nat × Bool)), (execOp ρ ⟨d, .call ⟨.builtin .append, #[x, y], #[t, ti]⟩, ty, pos, af, gd⟩).run P w = .ok (.value (.slice A' (xs ++ List.replicate m.toNat zx).length c')) w') ∧ Hp w0 ps (own kd e A' c' (xs ++ List.replicate m.toNat zx) :: fs) w' := by
  obtain ⟨i, hi, hiz, his, hib⟩ := hti.parts
  obtain ⟨n, rfl⟩ : ∃ n : Nat, m = n := ⟨m.toNat, by omega⟩
  simp only [Int.toNat_natCast] at hb ⊢
  obtain ⟨A', c', w', hrun, H'⟩ := Hp.grown (ys := List.replicate n zx) (R := fun v w' => (Builtin.append_ #[t, ti] 0 #[.slice A xs.length c, .int .i64 n]).run P w = .ok v w') H (List.replicate n z) (by simp [hk]) (fun cs0 hown => by
    have h := run_apz_own (P := P) (w := w) t ti 0 e i z kd.sz bytes ht hti' hi hiz (by rw [hk]; exact his) hib (by rw [hzc, hk]; rfl) (by omega) hby _ _ _ hown n (by rw [hzc, zc_one]; intro u hu; rw [(List.mem_replicate.1 hu).2]; exact hz1) hb
    rw [hzc, zc_one] at h
    simpa using h) (fun Z hp j hj => by
    rw [hk, Nat.mul_one]
    rw [List.length_replicate] at hj
    have e1 : ((List.replicate n z).drop j).take 1 = [z] := by
      rw [List.drop_replicate, List.take_replicate, show min 1 (n - j) = 1 from by omega]
      rfl
    rw [e1, List.getElem_replicate]
    exact hsay Z w)
  refine ⟨A', c', w', fun d ty pos af gd => ?_, H'⟩
  have hr : (Builtin.append_ #[t, ti] ty #[.slice A xs.length c, .int .i64 n]).run P w = .ok (.slice A' (xs ++ List.replicate n zx).length c') w' := hrun
  unfold execOp
  simp only [resolve, invoke, builtin, Sem.run_bind, Sem.run_pure, Result.andThen_ok, List.map_toArray, List.map_cons, List.map_nil, hx, hy, hr]
end
end Go.Proofs.Ytpmkpiffbdcflaa
