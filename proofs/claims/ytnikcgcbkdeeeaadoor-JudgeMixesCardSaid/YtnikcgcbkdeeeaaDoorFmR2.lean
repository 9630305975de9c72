/- Arguments that are slices of bytes, opened. -/
import Derived.Test.YtnikcgcbkdeeeaaDoorFmR
import Derived.Test.YtnikcgcbkdeeeaaDoorFmS2
import Derived.ChangeSlices
set_option linter.unusedVariables false
set_option linter.unusedSimpArgs false
namespace Go.FM
open Go Go.ChangeShapes Go.WideShapes Go.ChangeAt Go.RowKit
section
variable {H : Type} {enc : TypeId × Value → H} {P : Program} {W : World} {t e : TypeId} {v : Value} {d : DataW H} {ps : List MemPlace} {r : Reach} {b0 : Nat} {ts : List TypeId} {ds : List (DataW H)} {j : Nat}
/-- How long a slice is at most: the row's weights. -/
theorem slice_sized (hz : (DataW.weightsEach P ts ds).all (· ≤ reachBytes) = true) (htj : ts[j]? = some t) (hdj : ds[j]? = some d) (ht : P.underlying t = some (.slice e)) {A : Option Addr} {n c : Nat}
    (hd : DataW.Trod enc P W 0 (fun _ => true) true t (.slice A n c) d ps) : n * P.bytesOf e ≤ 140737488351232 := by
  obtain ⟨fuel, hf⟩ := hd
  rcases DataW.trod_slice ht hf with ⟨hcs, _⟩ | ⟨a, len, cap, elems, rest, m, _, hcs, hx, _, hl, hm, hlen, _, hsp, _⟩
  · simp [Value.cells] at hcs
    rw [hcs.2.1]; simp
  · simp [Value.cells] at hcs
    obtain ⟨rfl, rfl, rfl⟩ := hcs
    simp only [Prod.mk.injEq] at hx
    obtain ⟨rfl, _⟩ := hx
    have := sized_slice hz htj hdj ht
    simp only [List.length_map, hlen] at this
    have hb : reachBytes = 140737488351232 := by decide
    rw [hb] at this
    exact Nat.le_trans (Nat.mul_le_mul_right _ (Nat.le_add_right _ _)) this
theorem open_bytes (ht : P.underlying t = some (.slice e)) (he : P.underlying e = some (.int .u8)) (hc : P.cellsOf e = 1) (hby : P.bytesOf e = 1) (hval : Value.okWide P W r b0 t v) (hd : DataW.Trod enc P W 0 (fun _ => true) true t v d ps)
    (hz : (DataW.weightsEach P ts ds).all (· ≤ reachBytes) = true) (htj : ts[j]? = some t) (hdj : ds[j]? = some d) :
    ∃ (A : Option Addr) (n c : Nat) (bs : List Nat), v = .slice A n c ∧ Bs (Hp.of W) A n c bs ∧ n ≤ 140737488351232 := by
  obtain ⟨A, n, c, rfl⟩ := okWide_slice ht hval
  have hn := slice_sized hz htj hdj ht hd
  rw [hby, Nat.mul_one] at hn
  obtain ⟨fuel, hf⟩ := hd
  rcases open_ints ht he hc hf with ⟨hcs, _⟩ | ⟨x, l, c', zs, hcs, _, hl, hm, hzl, _, hcell, hwz⟩
  · simp [Value.cells] at hcs
    obtain ⟨rfl, rfl, rfl⟩ := hcs
    exact ⟨none, 0, 0, [], rfl, Bs.nil _ _, by omega⟩
  · simp [Value.cells] at hcs
    obtain ⟨rfl, rfl, rfl⟩ := hcs
    have hzl : zs.length = c := by simpa using hzl
    have hnat : ∀ z ∈ zs, ∃ m : Nat, z = (m : Int) ∧ m < 256 := fun z hz => wf_nat (k := .u8) rfl (hwz z hz)
    have hto : ∀ z ∈ zs, ((z.toNat : Nat) : Int) = z := fun z hz => by obtain ⟨m, rfl, _⟩ := hnat z hz; simp
    refine ⟨some x, n, c, (zs.take n).map Int.toNat, rfl, ⟨?_, by simp; omega, hl, hm, fun b hb => ?_⟩, hn⟩
    · by_cases h0 : zs.length = 0
      · left
        have : zs = [] := List.eq_nil_of_length_eq_zero h0
        rw [this]; simp
      · obtain ⟨b, off, rfl, hcell2⟩ := ints_at hcell (by omega)
        right
        cases hh : W.heap[b]? with
        | none =>
          have := hcell2 0 (by omega)
          simp [World.cell?, hh] at this
        | some o =>
          cases o with
          | cells cs E fr =>
            refine ⟨b, off, cs, E, fr, rfl, hh, fun i u hu => ?_⟩
            simp only [List.getElem?_map, Option.map_map] at hu
            rw [List.getElem?_take] at hu
            split at hu
            · rename_i hi
              cases hz' : zs[i]? with
              | none => rw [hz'] at hu; simp at hu
              | some z =>
                rw [hz'] at hu
                simp only [Option.map_some, Option.some.injEq, Function.comp] at hu
                subst hu
                have h1 := hcell2 i (List.getElem?_eq_some_iff.1 hz').1
                rw [List.getD_eq_getElem?_getD, hz'] at h1
                simp only [World.cell?, hh, Option.getD_some] at h1
                rw [encB, hto z (List.mem_of_getElem? hz')]
                simpa using h1
            · simp at hu
          | _ =>
            have := hcell2 0 (by omega)
            simp [World.cell?, hh] at this
    · obtain ⟨z, hz, rfl⟩ := List.mem_map.1 hb
      obtain ⟨m, rfl, hm⟩ := hnat z (List.mem_of_mem_take hz)
      simpa using hm
end
end Go.FM
