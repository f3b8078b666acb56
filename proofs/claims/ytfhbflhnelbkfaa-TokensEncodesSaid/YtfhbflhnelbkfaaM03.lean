/-
  M03: plain functions of layer 3 (checksum). No program in sight.
-/
import Derived.Test.YtfhbflhnelbkfaaM16
namespace Go.Kw
def st1 (v : Nat) : Nat := if v % 2 ^ 1 = 1 then v / 2 ^ 1 ^^^ 2197175160 else v / 2 ^ 1
def stepN (v : Nat) : Nat → Nat
  | 0 => v
  | n + 1 => st1 (stepN v n)
def tabE (i : Nat) : Nat := stepN i 4
def crcA (v c : Nat) : Nat := v ^^^ c
def crcB (a : Nat) : Nat := a / 2 ^ 4 ^^^ tabE (a % 2 ^ 4)
def crc1 (v c : Nat) : Nat := crcB (crcB (crcA v c))
def crcF (l : List Nat) : Nat := l.foldl crc1 4294967295
theorem crcF_snoc (l : List Nat) (c : Nat) : crcF (l ++ [c]) = crc1 (crcF l) c := by simp [crcF]
def sumN (l : List Nat) : Nat := 4294967295 ^^^ crcF l
def byts (v : Nat) : List Nat := [v % 2 ^ 8, v / 2 ^ 8 % 2 ^ 8, v / 2 ^ 16 % 2 ^ 8, v / 2 ^ 24 % 2 ^ 8]
def sealN (l : List Nat) : List Nat := l ++ byts (sumN l)
theorem byts_lt (v : Nat) : ∀ x ∈ byts v, x < 256 := fun x hx => by
  simp only [byts, List.mem_cons, List.not_mem_nil, or_false] at hx
  omega
theorem sealN_length (l : List Nat) : (sealN l).length = l.length + 4 := by simp [sealN, byts]
theorem xor_lt32 {a b : Nat} (ha : a < 4294967296) (hb : b < 4294967296) : a ^^^ b < 4294967296 := by
  have := Nat.xor_lt_two_pow (n := 32) (x := a) (y := b) (by omega) (by omega); omega
theorem st1_lt {v : Nat} (h : v < 4294967296) : st1 v < 4294967296 := by
  unfold st1
  split
  · exact xor_lt32 (by omega) (by omega)
  · omega
theorem stepN_lt {v : Nat} (h : v < 4294967296) : ∀ n, stepN v n < 4294967296
  | 0 => h
  | n + 1 => st1_lt (stepN_lt h n)
theorem tabE_lt {i : Nat} (h : i < 16) : tabE i < 4294967296 := stepN_lt (by omega) 4
theorem crcB_lt {a : Nat} (h : a < 4294967296) : crcB a < 4294967296 := xor_lt32 (by omega) (tabE_lt (by omega))
theorem crcF_lt : ∀ (l : List Nat), (∀ x ∈ l, x < 256) → crcF l < 4294967296 := by
  refine snocInd (fun _ => by simp [crcF]) fun l c ih h => ?_
  rw [crcF_snoc]
  have h1 := ih fun x hx => h x (by simp [hx])
  have h2 := h c (by simp)
  exact crcB_lt (crcB_lt (xor_lt32 h1 (by omega)))
theorem sumN_lt {l : List Nat} (h : ∀ x ∈ l, x < 256) : sumN l < 4294967296 := xor_lt32 (by omega) (crcF_lt l h)
def crcTab : List Nat := (List.range 16).map tabE
def tabU (k : Nat) : List Nat := (List.range k).map tabE ++ List.replicate (16 - k) 0
theorem tabU_length {k : Nat} (h : k ≤ 16) : (tabU k).length = 16 := by simp [tabU]; omega
theorem tabU_set {k : Nat} (h : k < 16) : (tabU k).set k (tabE k) = tabU (k + 1) := by
  unfold tabU
  rw [List.set_append_right _ _ (by simp), show 16 - k = (16 - (k + 1)) + 1 by omega, List.replicate_succ, List.range_succ]
  simp
theorem tabU_all : tabU 16 = crcTab := by simp [tabU, crcTab]
theorem crcTab_get {i : Nat} (h : i < 16) : crcTab[i]? = some (tabE i) := by simp [crcTab, h]
/-! ## Bytes -/
theorem encBk_lt (width : Nat) (l : List Nat) : ∀ x ∈ encBk width l, x < 256 := fun x hx => by
  have he : ∀ l : List Nat, ∀ x ∈ (encSt width l).2.2.1, x < 256 := by
    refine snocInd (fun x hx => by simp [encSt] at hx) fun l y ih x hx => ?_
    rw [encSt_snoc] at hx
    unfold encStep at hx
    split at hx
    · simp only [List.mem_append] at hx
      rcases hx with (hx | hx) | hx
      · exact ih x hx
      · exact uv_lt _ x hx
      · exact uv_lt _ x hx
    · exact ih x hx
  unfold encBk at hx
  simp only [List.mem_append] at hx
  rcases hx with (((hx | hx) | hx) | hx) | hx
  · exact uv_lt _ x hx
  · exact uv_lt _ x hx
  · exact uv_lt _ x hx
  · exact packB_lt _ x hx
  · exact he l x hx
theorem pld_lt (kind : Nat) (ps : List (List Nat × Nat)) (h : ∀ p ∈ ps, ∀ x ∈ p.1, x < 256) : ∀ x ∈ pld kind ps, x < 256 := fun x hx => by
  obtain ⟨p, hp, hx⟩ := List.mem_flatMap.1 hx
  rcases List.mem_append.1 hx with hx | hx
  · exact uv_lt _ x hx
  · exact h p hp x hx
theorem payl_lt (n kind : Nat) (lens : List Nat) (ps : List (List Nat × Nat)) (h : ∀ p ∈ ps, ∀ x ∈ p.1, x < 256) : ∀ x ∈ payl n kind lens ps, x < 256 := fun x hx => by
  unfold payl hdP at hx
  simp only [List.mem_append] at hx
  rcases hx with ((hx | hx) | hx) | hx
  · exact uv_lt _ x hx
  · exact uv_lt _ x hx
  · split at hx
    · rcases List.mem_append.1 hx with hx | hx
      · exact uv_lt _ x hx
      · obtain ⟨y, _, rfl⟩ := List.mem_map.1 hx; omega
    · cases hx
  · exact pld_lt kind ps h x hx
theorem ptsK_lt (l : List Nat) : ∀ p ∈ ptsK l, ∀ x ∈ p.1, x < 256 := fun p hp x hx => by
  unfold ptsK at hp
  split at hp
  · obtain ⟨i, _, rfl⟩ := List.mem_map.1 hp; exact packB_lt _ x hx
  · obtain ⟨i, _, rfl⟩ := List.mem_map.1 hp; exact encBk_lt _ _ x hx
end Go.Kw
