/- ParseWhole is so: a text is what it is cut into, and ahead of a sign of one byte there is none. -/
import Derived.Test.YthnholondnfjoaaDoorPParsex8
import Derived.Test.YthnholondnfjoaaDoorCutPure
import Derived.Test.YthnholondnfjoaaDoorParseShown
namespace Go.Proofs.YthnholondnfjoaaDoor.Pl
open Go.RowKit Go.Proofs.YthnholondnfjoaaDoor.PParse Go.Proofs.YthnholondnfjoaaDoorW.PrintWords Go.Proofs.YthnholondnfjoaaDoorW.PrintLast

theorem whole_ev (s sign : ByteArray) (hs : s.size ≤ 1000) : Ev (fun k => cooperagelaw9_ParseWhole.j0 k s sign true false) true := by
  obtain ⟨K1, h1⟩ := cut1_ev s sign (by omega)
  obtain ⟨r, w1, w2, w3, w4⟩ := cutGo_whole [bl sign] (bl s).length [] [] (bl s)
  have hah := fun x b => cutGo_ahead x (bl s).length r.length [] [] r b (Nat.le_refl _)
  rw [List.nil_append] at w1
  unfold cutL at h1
  obtain ⟨p, hp⟩ : ∃ p, p = cutGo [bl sign] (bl s).length [] [] (bl s) := ⟨_, rfl⟩
  rw [← hp] at h1 w1 w2 w3 w4
  obtain ⟨pa, px, pb⟩ := p
  simp only at w1 w2 w3 w4
  subst w1
  have hsl := bl_size s
  have hlen : pa.length ≤ (bl s).length := by rw [← w2]; simp
  have hlx : pa.length + px.length + pb.length = (bl s).length := by rw [← w2]; simp; omega
  have hpa := ofL_size pa
  have hpx := ofL_size px
  have hpb := ofL_size pb
  obtain ⟨W, hW⟩ : ∃ W, W = ((⟨#[36, 40]⟩ : ByteArray) ++ s) ++ (⟨#[41]⟩ : ByteArray) := ⟨_, rfl⟩
  have hWs : W.size = s.size + 3 := by rw [hW, ByteArray.size_append, ByteArray.size_append]; show 2 + s.size + 1 = _; omega
  obtain ⟨K2, h2⟩ := cut1_ev (ofL pa) sign (by omega)
  obtain ⟨K3, h3⟩ := cut1_ev W sign (by omega)
  refine ⟨max K1 (max K2 K3) + 1, fun k hk => ?_⟩
  obtain ⟨m, rfl⟩ : ∃ m, k = m + 1 := ⟨k - 1, by omega⟩
  have h1' : parse_Cut.f m s [sign] = some (tr3 (pa, px, pb)) := h1 m (by omega)
  have h2' : parse_Cut.f m (ofL pa) [sign] = some _ := h2 m (by omega)
  have h3' : parse_Cut.f m W [sign] = some _ := h3 m (by omega)
  dsimp only
  rw [cooperagelaw9_ParseWhole.j0, if_neg (by decide), h1', ← hW]
  simp only [Option.bind_some, tr3, bl_toList, bl_ofL]
  by_cases e : px = []
  · have hb := w3 e
    subst e
    subst hb
    rw [if_pos rfl, if_pos (by simpa using w2)]
    rfl
  · rw [if_neg e, h2']
    have hg := w4 e
    simp only [List.mem_cons, List.not_mem_nil, or_false] at hg
    simp only [Option.bind_some, tr3, bl_ofL]
    rw [if_pos (by omega), if_pos (by have := ByteArray.size_append (a := (⟨#[36, 40]⟩ : ByteArray)) (b := s); have h2 : (⟨#[36, 40]⟩ : ByteArray).size = 2 := rfl; omega), h3']
    simp only [Option.bind_some, tr3, bl_ofL, bl_append]
    have hw : pa ++ px ++ pb = bl s := by rw [List.append_assoc]; exact w2
    rw [if_pos hg, if_pos (by omega), if_pos (by rw [ByteArray.size_append]; omega), if_pos hw]
    obtain ⟨u, v1, v2, v3, v4⟩ := cutGo_whole [bl sign] (bl W).length [] [] (bl W)
    have v0 : cutL [bl sign] (bl W) = cutGo [bl sign] (bl W).length [] [] (bl W) := rfl
    rw [List.nil_append] at v1
    rw [v0]
    obtain ⟨q, hq⟩ : ∃ q, q = cutGo [bl sign] (bl W).length [] [] (bl W) := ⟨_, rfl⟩
    rw [← hq] at v1 v2 v3 v4 ⊢
    obtain ⟨qa, qx, qb⟩ := q
    simp only at v1 v2 v3 v4 ⊢
    subst v1
    have hql : qa.length + qx.length + qb.length = W.size := by rw [bl_size, ← v2]; simp; omega
    have hqa := ofL_size qa
    have hqx := ofL_size qx
    have hqb := ofL_size qb
    have hz : ∀ d : Option Bool, (if qx = [] then (if qa = bl W then (if qb = [] then some true else (if qx = bl sign then d else some false)) else (if qx = bl sign then d else some false)) else
        (if qx = bl sign then (if (ofL qa).size + (ofL qx).size ≤ 9223372036854775807 then (if (ofL qa ++ ofL qx).size + (ofL qb).size ≤ 9223372036854775807 then some (qa ++ qx ++ qb == bl W) else none) else none) else some false)) = some true := by
      intro d
      by_cases f : qx = []
      · have hb := v3 f
        subst f
        subst hb
        rw [if_pos rfl, if_pos (by simpa using v2), if_pos rfl]
      · have hg2 := v4 f
        simp only [List.mem_cons, List.not_mem_nil, or_false] at hg2
        rw [if_neg f, if_pos hg2, if_pos (by omega), if_pos (by rw [ByteArray.size_append]; omega), beq_iff_eq.2 (show qa ++ qx ++ qb = bl W by rw [List.append_assoc]; exact v2)]
    by_cases hy : (cutL [bl sign] pa).2.1 = []
    · rw [if_pos hy]
      exact hz _
    · rw [if_neg hy]
      have hsg : (sign.size : Int) > 1 := by
        have hs1 := bl_size sign
        rcases hlg : bl sign with _ | ⟨x, _ | ⟨y, z⟩⟩
        · rw [hlg] at hg
          exact absurd hg e
        · exfalso
          rw [hlg] at hg hp hy
          subst hg
          have hss : bl s = pa ++ x :: pb := by rw [← w2]; rfl
          have := hah x pb
          rw [hss] at hp
          rw [hss, ← hp] at this
          have h9 := this rfl
          apply hy
          unfold cutL
          rw [h9]
        · rw [hs1, hlg]
          simp
          omega
      rw [if_pos hsg]
      exact hz _
end Go.Proofs.YthnholondnfjoaaDoor.Pl
namespace Go.Proofs.YthnholondnfjoaaDoor.Pure
open Go.RowKit Go.Proofs.YthnholondnfjoaaDoor.PParse Go.Proofs.YthnholondnfjoaaDoorW.PrintWords Go.Proofs.YthnholondnfjoaaDoor.Pl

theorem ParseWhole : cooperagelaw9_ParseWhole.Pure := by
  intro a0 a1 _ _
  have hT : Ev (fun k => cooperagelaw9_ParseWhole.j0 k a0 a1 true true) true := Ev.step (f := fun _ => some true) (fun k => by rw [cooperagelaw9_ParseWhole.j0, if_pos rfl]) (Ev.now _)
  refine Ev.rounds (g := fun k => cooperagelaw9_ParseWhole.f k a0 a1) ?_
  unfold cooperagelaw9_ParseWhole.f
  refine Ev.bind (f := fun k t => if t = true then (if (a0.size : Int) > 1000 then (cooperagelaw9_ParseWhole.j0 k a0 a1 t true) else (cooperagelaw9_ParseWhole.j0 k a0 a1 t (decide ((a1.size : Int) > 20)))) else (cooperagelaw9_ParseWhole.j0 k a0 a1 t true)) shown_ev ?_
  simp only [if_true]
  by_cases h : (a0.size : Int) > 1000
  · simp only [if_pos h]
    exact hT
  · simp only [if_neg h]
    by_cases h2 : (a1.size : Int) > 20
    · simp only [decide_eq_true h2]
      exact hT
    · simp only [decide_eq_false h2]
      exact whole_ev a0 a1 (by omega)
end Go.Proofs.YthnholondnfjoaaDoor.Pure
