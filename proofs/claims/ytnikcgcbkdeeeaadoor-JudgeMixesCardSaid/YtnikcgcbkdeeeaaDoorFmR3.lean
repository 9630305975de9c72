/- Arguments that are slices of whole numbers, opened. -/
import Derived.Test.YtnikcgcbkdeeeaaDoorFmR2
import Derived.Test.YtnikcgcbkdeeeaaDoorFmU
set_option linter.unusedVariables false
set_option linter.unusedSimpArgs false
namespace Go.FM
open Go Go.ChangeShapes Go.WideShapes Go.ChangeAt Go.RowKit
section
variable {H : Type} {enc : TypeId × Value → H} {P : Program} {W : World} {t e : TypeId} {v : Value} {d : DataW H} {ps : List MemPlace} {r : Reach} {b0 : Nat} {ts : List TypeId} {ds : List (DataW H)} {j : Nat}
/-- Cells that are known one by one lie in one block. -/
theorem rd_of_cells {x : Addr} {zs : List Value} (hcell : ∀ i, i < zs.length → W.cell? (x.add i) = zs[i]?) : Rd (Hp.of W) (some x) zs := by
  by_cases h0 : zs.length = 0
  · exact .inl (List.eq_nil_of_length_eq_zero h0)
  · obtain ⟨b, off, sp⟩ := x
    have h00 := hcell 0 (by omega)
    have hz0 : ∃ u, zs[0]? = some u := ⟨_, List.getElem?_eq_getElem (by omega)⟩
    obtain ⟨u0, hu0⟩ := hz0
    rw [hu0] at h00
    have hsp : sp = none := by simpa [Addr.add] using World.cell?_spot h00
    subst hsp
    right
    have hadd : ∀ i, (⟨b, off, none⟩ : Addr).add i = ⟨b, off + i, none⟩ := fun i => add_none b off i
    cases hh : W.heap[b]? with
    | none => rw [hadd] at h00; simp [World.cell?, hh] at h00
    | some o =>
      cases o with
      | cells cs E fr =>
        refine ⟨b, off, cs, E, fr, rfl, hh, fun i u hu => ?_⟩
        have h1 := hcell i (List.getElem?_eq_some_iff.1 hu).1
        rw [hadd, hu] at h1
        simpa [World.cell?, hh] using h1
      | _ => rw [hadd] at h00; simp [World.cell?, hh] at h00
theorem open_u64s (ht : P.underlying t = some (.slice e)) (he : P.underlying e = some (.int .u64)) (hc : P.cellsOf e = 1) (hval : Value.okWide P W r b0 t v) (hd : DataW.Trod enc P W 0 (fun _ => true) true t v d ps) :
    ∃ (A : Option Addr) (n c : Nat) (bs : List Nat), v = .slice A n c ∧ Us (Hp.of W) A n c bs := by
  obtain ⟨A, n, c, rfl⟩ := okWide_slice ht hval
  obtain ⟨fuel, hf⟩ := hd
  rcases open_ints ht he hc hf with ⟨hcs, _⟩ | ⟨x, l, c', zs, hcs, _, hl, hm, hzl, _, hcell, hwz⟩
  · simp [Value.cells] at hcs
    obtain ⟨rfl, rfl, rfl⟩ := hcs
    exact ⟨none, 0, 0, [], rfl, Rd.nil _, rfl, Nat.le_refl _, Nat.zero_le _, fun b hb => absurd hb List.not_mem_nil⟩
  · simp [Value.cells] at hcs
    obtain ⟨rfl, rfl, rfl⟩ := hcs
    have hzl : zs.length = c := by simpa using hzl
    have hnat : ∀ z ∈ zs, ∃ m : Nat, z = (m : Int) ∧ m < 18446744073709551616 := fun z hz => wf_nat (k := .u64) rfl (hwz z hz)
    have hto : ∀ z ∈ zs, ((z.toNat : Nat) : Int) = z := fun z hz => by obtain ⟨m, rfl, _⟩ := hnat z hz; simp
    refine ⟨some x, n, c, (zs.take n).map Int.toNat, rfl, rd_of_cells fun i hi => ?_, by simp; omega, hl, hm, fun b hb => ?_⟩
    · have hi2 : i < n := by simp at hi; omega
      rw [hcell i (by omega)]
      simp only [List.map_map, List.getElem?_map, List.getElem?_take, hi2, if_true]
      rw [List.getD_eq_getElem?_getD]
      cases hz : zs[i]? with
      | none => rw [List.getElem?_eq_none_iff] at hz; omega
      | some z =>
        show some (Value.int .u64 z) = some (encU z.toNat)
        rw [encU, hto z (List.mem_of_getElem? hz)]
    · obtain ⟨z, hz, rfl⟩ := List.mem_map.1 hb
      obtain ⟨m, rfl, hm⟩ := hnat z (List.mem_of_mem_take hz)
      simpa using hm
end
end Go.FM
