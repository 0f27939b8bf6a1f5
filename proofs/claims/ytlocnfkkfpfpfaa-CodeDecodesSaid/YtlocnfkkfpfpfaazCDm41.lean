/- The reference's Decode: the state between its steps, and what its faults mean. -/
import Derived.Test.YtlocnfkkfpfpfaazCDm40
namespace Go.Proofs.Ytlocnfkkfpfpfaa.D
open Go.RowKit Go.Proofs.YtlocnfkkfpfpfaaW.PrintWords Go.Proofs.YtlocnfkkfpfpfaaW.PrintLast Go.Proofs.YtlocnfkkfpfpfaaW.PrintMore Go.Proofs.Ytlocnfkkfpfpfaa.Six
set_option linter.unusedSimpArgs false
set_option linter.unusedVariables false
set_option linter.unusedSectionVars false
def Ends (F : Except (Int × Int) (Pg × Int)) (kf bf : Int) (gf : Pg) : Prop :=
  match F with
  | .ok (g, _) => kf = 0 ∧ gf = g
  | .error (k, q) => k ≠ 0 ∧ kf = k ∧ bf = q
theorem Stk.link {α : Type} {p k b : Int} {r : Except (Int × Int) (α × Int)} {x : α} {p2 k2 b2 kf bf : Int} {gf : Pg} {F : Except (Int × Int) (Pg × Int)} {c : α → Int → Except (Int × Int) (Pg × Int)}
 (hs : Stk p k b r x p2 k2 b2) (ht : ∀ kk q, k = 0 → r = .error (kk, q) → kk ≠ 0) (hn : k2 ≠ 0 → kf = k2 ∧ bf = b2) (ho : k2 = 0 → Ends (c x p2) kf bf gf)
 (he : ∀ f, r = .error f → F = .error f) (hk : ∀ y q, r = .ok (y, q) → F = c y q) : (k ≠ 0 → kf = k ∧ bf = b) ∧ (k = 0 → Ends F kf bf gf) := by
 refine ⟨fun h => ?_, fun h => ?_⟩
 ·
  obtain ⟨rfl, rfl, rfl⟩ := hs.2 h
  exact hn h
 ·
  have h1 := hs.1 h
  cases hr : r with
  | error f =>
   obtain ⟨kk, q⟩ := f
   rw [hr] at h1
   obtain ⟨rfl, rfl⟩ := h1
   have h2 := ht _ _ h hr
   rw [he _ hr]
   exact ⟨h2, hn h2⟩
  | ok z =>
   obtain ⟨z, q⟩ := z
   rw [hr] at h1
   obtain ⟨rfl, rfl, h2, rfl⟩ := h1
   rw [hk _ _ hr]
   exact ho h2
theorem setsF_tame (bs : List Int) (nT nN : Nat) : Tame bs.length (setsF bs nT nN) :=
  (listF_tame [] (cmpL cmpS) (textsF_tame bs) 0 (4096 - nT - nN)).bind
    (g := fun S q => match listF [] (numsF bs) (cmpL cmpI) bs q 0 (4096 - nT - nN - S.length) with | .error f => .error f | .ok (M, q) => .ok ((S, M), q))
    (fun S => (listF_tame [] (cmpL cmpI) (numsF_tame bs) 0 (4096 - nT - nN - S.length)).bind (g := fun M q => .ok ((S, M), q)) (fun M q h0 h1 => Res.ok ⟨by omega, by omega⟩)
      (fun p e h => by rw [h]) (fun p x q h => by rw [h]))
    (fun p e h => by unfold setsF; rw [h]) (fun p x q h => by unfold setsF; rw [h]; rfl)
theorem Stk.place {α : Type} {n p k b : Int} {f : Int → Except (Int × Int) (α × Int)} {x : α} {p2 k2 b2 : Int} (ht : Tame n f) (hs : Stk p k b (f p) x p2 k2 b2) (h : k = 0 → 0 ≤ p ∧ p ≤ n) : (k2 = 0 → 0 ≤ p2 ∧ p2 ≤ n) ∧ (∀ kk q, k = 0 → f p = .error (kk, q) → kk ≠ 0) := by
 refine ⟨fun h2 => ?_, fun kk q hk he => ?_⟩
 ·
  by_cases hk : k = 0
  ·
   have h1 := hs.1 hk
   have h3 := ht p (h hk).1 (h hk).2
   cases hr : f p with
   | error e =>
    obtain ⟨kk, q⟩ := e
    rw [hr] at h1
    have := h3.1 _ _ hr
    have := h1.1
    omega
   | ok z =>
    obtain ⟨z, q⟩ := z
    rw [hr] at h1
    have := h3.2 _ _ hr
    have := h1.2.1
    have := h hk
    omega
  ·
   have := (hs.2 hk).2.1
   omega
 ·
  have := (ht p (h hk).1 (h hk).2).1 _ _ he
  omega
theorem Ends.error {kf bf k q : Int} {gf : Pg} (hk : k ≠ 0) (h1 : kf = k) (h2 : bf = q) : Ends (.error (k, q)) kf bf gf := ⟨hk, h1, h2⟩
theorem ref_ends (bs : List Int) {p0 k0 b0 dep p1 k1 b1 loc p2 k2 b2 nt p3 k3 b3 p4 k4 b4 nn p5 k5 b5 p6 k6 b6 p7 k7 b7 n p8 k8 b8 p9 k9 b9 kf bf : Int} {T : List ByteArray} {N : List Int} {S : List (List ByteArray)} {M : List (List Int)} {C : List S74}
 (h0 : match headL bs 4 0 with | none => p0 = 4 ∧ k0 = 0 ∧ b0 = 0 | some f => k0 = f.1 ∧ b0 = f.2) (g0 : k0 = 0 → 0 ≤ p0 ∧ p0 ≤ bs.length)
 (s1 : Stk p0 k0 b0 (countF bs p0 0 128) dep p1 k1 b1) (s2 : Stk p1 k1 b1 (countF bs p1 0 1024) loc p2 k2 b2)
 (s3 : Stk p2 k2 b2 (countF bs p2 0 4096) nt p3 k3 b3) (s4 : Stk p3 k3 b3 (listL ByteArray.empty (textF bs) cmpS nt.toNat p3 []) T p4 k4 b4)
 (s5 : Stk p4 k4 b4 (countF bs p4 0 (4096 - T.length)) nn p5 k5 b5) (s6 : Stk p5 k5 b5 (listL 0 (numF bs) cmpI nn.toNat p5 []) N p6 k6 b6)
 (s7 : Stk p6 k6 b6 (setsF bs T.length N.length p6) (S, M) p7 k7 b7) (s8 : Stk p7 k7 b7 (countF bs p7 0 32768) n p8 k8 b8)
 (s9 : Stk p8 k8 b8 (codeL bs n.toNat p8 []) C p9 k9 b9) (hf1 : k9 = 0 → p9 < bs.length → kf = 206 ∧ bf = p9) (hf2 : k9 = 0 → ¬ p9 < bs.length → kf = 0) (hf3 : k9 ≠ 0 → kf = k9 ∧ bf = b9) :
 Ends (programF bs) kf bf ⟨T, N, S, M, C, dep, loc⟩ := by
 obtain ⟨g1, t1⟩ := Stk.place (countF_tame bs 0 128) s1 g0
 obtain ⟨g2, t2⟩ := Stk.place (countF_tame bs 0 1024) s2 g1
 obtain ⟨g3, t3⟩ := Stk.place (countF_tame bs 0 4096) s3 g2
 obtain ⟨g4, t4⟩ := Stk.place (listL_tame _ cmpS (textF_tame bs) nt.toNat []) s4 g3
 obtain ⟨g5, t5⟩ := Stk.place (countF_tame bs 0 (4096 - T.length)) s5 g4
 obtain ⟨g6, t6⟩ := Stk.place (listL_tame _ cmpI (numF_tame bs) nn.toNat []) s6 g5
 obtain ⟨g7, t7⟩ := Stk.place (setsF_tame bs T.length N.length) s7 g6
 obtain ⟨g8, t8⟩ := Stk.place (countF_tame bs 0 32768) s8 g7
 obtain ⟨g9, t9⟩ := Stk.place (codeL_tame bs n.toNat []) s9 g8
 have e9 : k9 = 0 → Ends (pEnd bs ⟨T, N, S, M, C, dep, loc⟩ p9) kf bf ⟨T, N, S, M, C, dep, loc⟩ := fun h => by
  unfold pEnd
  by_cases hp : p9 < bs.length
  ·
   rw [if_pos hp]
   obtain ⟨a, b⟩ := hf1 h hp
   exact ⟨by decide, a, b⟩
  ·
   rw [if_neg hp]
   exact ⟨hf2 h hp, rfl⟩
 obtain ⟨n8, e8⟩ := s9.link (F := pLoop bs T N S M dep loc n.toNat p8 []) (c := fun C q => pEnd bs ⟨T, N, S, M, C, dep, loc⟩ q) t9 hf3 e9 (fun f h => by unfold pLoop; rw [h]) (fun y q h => by unfold pLoop; rw [h])
 obtain ⟨n7, e7⟩ := s8.link (F := pCode bs T N S M dep loc p7) (c := fun n q => pLoop bs T N S M dep loc n.toNat q []) t8 n8 e8 (fun f h => by unfold pCode; rw [h]) (fun y q h => by unfold pCode; rw [h])
 obtain ⟨n6, e6⟩ := s7.link (F := pS bs T N dep loc p6) (c := fun SM q => pCode bs T N SM.1 SM.2 dep loc q) t7 n7 e7
  (fun f h => by
   unfold setsF at h
   unfold pS
   split at h
   ·
    rename_i f2 h2
    rw [h2]
    simp only [Except.error.injEq] at h
    rw [h]
   ·
    rename_i S q h2
    rw [h2]
    dsimp only
    unfold pM
    split at h
    ·
     rename_i f2 h3
     rw [h3]
     simp only [Except.error.injEq] at h
     rw [h]
    ·
     cases h)
  (fun y q h => by
   unfold setsF at h
   unfold pS
   split at h
   ·
    cases h
   ·
    rename_i S q h2
    rw [h2]
    dsimp only
    unfold pM
    split at h
    ·
     cases h
    ·
     rename_i M q h3
     rw [h3]
     simp only [Except.ok.injEq, Prod.mk.injEq] at h
     obtain ⟨rfl, rfl⟩ := h
     rfl)
 obtain ⟨n5, e5⟩ := s6.link (F := match listL 0 (numF bs) cmpI nn.toNat p5 [] with | .error f => .error f | .ok (N, q) => pS bs T N dep loc q) (c := fun N q => pS bs T N dep loc q) t6 n6 e6 (fun f h => by rw [h]) (fun y q h => by rw [h])
 obtain ⟨n4, e4⟩ := s5.link (F := pN bs T dep loc p4) (c := fun nn q => match listL 0 (numF bs) cmpI nn.toNat q [] with | .error f => .error f | .ok (N, q) => pS bs T N dep loc q) t5 n5 e5 (fun f h => by unfold pN listF; rw [h]) (fun y q h => by unfold pN listF; rw [h]; rfl)
 obtain ⟨n3, e3⟩ := s4.link (F := match listL ByteArray.empty (textF bs) cmpS nt.toNat p3 [] with | .error f => .error f | .ok (T, q) => pN bs T dep loc q) (c := fun T q => pN bs T dep loc q) t4 n4 e4 (fun f h => by rw [h]) (fun y q h => by rw [h])
 obtain ⟨n2, e2⟩ := s3.link (F := pT bs dep loc p2) (c := fun nt q => match listL ByteArray.empty (textF bs) cmpS nt.toNat q [] with | .error f => .error f | .ok (T, q) => pN bs T dep loc q) t3 n3 e3 (fun f h => by unfold pT listF; rw [h]) (fun y q h => by unfold pT listF; rw [h]; rfl)
 obtain ⟨n1, e1⟩ := s2.link (F := pLoc bs dep p1) (c := fun loc q => pT bs dep loc q) t2 n2 e2 (fun f h => by unfold pLoc; rw [h]) (fun y q h => by unfold pLoc; rw [h])
 obtain ⟨n0, e0⟩ := s1.link (F := pDep bs p0) (c := fun dep q => pLoc bs dep q) t1 n1 e1 (fun f h => by unfold pDep; rw [h]) (fun y q h => by unfold pDep; rw [h])
 unfold programF
 cases hh : headL bs 4 0 with
 | none =>
  rw [hh] at h0
  obtain ⟨rfl, h2, rfl⟩ := h0
  exact e0 h2
 | some f =>
  obtain ⟨k, q⟩ := f
  rw [hh] at h0
  obtain ⟨rfl, rfl⟩ := h0
  have := headL_tame bs 4 0 _ _ hh
  have h3 : k0 ≠ 0 := by omega
  exact ⟨h3, n0 h3⟩
structure StD (w W : World) (g X : Nat) (bs : List Int) (p k b : Int) (vT vN vS vM vC : Value) (P : Pg) : Prop where
  rd : IsS85 w W g bs p k b
  below : Below w.heap.size w W
  z : W.heap[w.heap.size]? = some (.cells #[.slice none 0 0, .slice none 0 0, .slice none 0 0, .slice none 0 0, .slice none 0 0, .int .i64 0, .int .i64 0] 32 (0, 0))
  x : W.heap[X]? = some (.cells #[vT, vN, vS, vM, vC, .int .i64 P.dep, .int .i64 P.loc] 32 (0, 0))
  gX : g < X
  zg : w.heap.size < g
  rT : Kd.string.R 9 W w.heap.size (fun k => X < k) vT P.T
  rN : (Kd.int .i64).R 3 W w.heap.size (fun k => X < k) vN P.N
  rS : (Kd.slice 9 Kd.string).R 26 W w.heap.size (fun k => X < k) vS P.S
  rM : (Kd.slice 3 (Kd.int .i64)).R 27 W w.heap.size (fun k => X < k) vM P.M
  rC : k74.R 74 W w.heap.size (fun k => X < k) vC P.C
section
variable {w W W2 : World} {g X : Nat} {bs : List Int} {p k b p2 k2 b2 : Int} {vT vN vS vM vC : Value} {P : Pg}
theorem StD.call (h : StD w W g X bs p k b vT vN vS vM vC P) (hI : IsS85 w W2 g bs p2 k2 b2) (hB : Below w.heap.size w W2) (hK : KeepBut W W2 g none) : StD w W2 g X bs p2 k2 b2 vT vN vS vM vC P := by
  have h1 := h.gX
  have h2 := h.zg
  have ne : ∀ j, X < j → j ≠ g := fun j hj => by omega
  exact ⟨hI, hB, (hK.2 _ (blk_lt h.z) (by omega) (by simp)).trans h.z, (hK.2 X (blk_lt h.x) (by omega) (by simp)).trans h.x, h1, h2,
    Kd.R_keep h.rT hK ne, Kd.R_keep h.rN hK ne, Kd.R_keep h.rS hK ne, Kd.R_keep h.rM hK ne, Kd.R_keep h.rC hK ne⟩
theorem StD.drew (h : StD w W g X bs p k b vT vN vS vM vC P) : StD w W.drew g X bs p k b vT vN vS vM vC P := ⟨h.rd.drew, h.below.drew, h.z, h.x, h.gX, h.zg, Kd.R_drew h.rT, Kd.R_drew h.rN, Kd.R_drew h.rS, Kd.R_drew h.rM, Kd.R_drew h.rC⟩
theorem StD.drewN (h : StD w W g X bs p k b vT vN vS vM vC P) (n : Nat) : StD w (W.drewN n) g X bs p k b vT vN vS vM vC P := ⟨h.rd.drewN n, pw_below_drewN h.below n, h.z, h.x, h.gX, h.zg, Kd.R_drewN h.rT n, Kd.R_drewN h.rN n, Kd.R_drewN h.rS n, Kd.R_drewN h.rM n, Kd.R_drewN h.rC n⟩
theorem StD.alloc (h : StD w W g X bs p k b vT vN vS vM vC P) (o : Obj) : StD w (W.alloc o) g X bs p k b vT vN vS vM vC P := by
  have hb : Below W.heap.size W (W.alloc o) := below_alloc (Below.refl _ _) o
  exact ⟨h.rd.alloc o, below_alloc h.below o, (heap_alloc_old _ _ (blk_lt h.z)).trans h.z, (heap_alloc_old _ _ (blk_lt h.x)).trans h.x, h.gX, h.zg, Kd.R_below h.rT hb, Kd.R_below h.rN hb, Kd.R_below h.rS hb, Kd.R_below h.rM hb, Kd.R_below h.rC hb⟩
theorem StD.mine {α : Type} {d : Kd α} {e : Nat} {v : Value} {l : List α} (h : StD w W g X bs p k b vT vN vS vM vC P) (hv : d.R e W2 W.heap.size (fun _ => True) v l) : d.R e W2 w.heap.size (fun k => X < k) v l :=
  Kd.R_lower (Kd.R_mono (Kd.R_bound hv) (fun k hk => by have := hk.2.1; have := blk_lt h.x; omega)) h.below.size
theorem StD.store (h : StD w W g X bs p k b vT vN vS vM vC P) (i : Nat) (v : Value) :
 IsS85 w (W.setCell ⟨X, i, none⟩ v) g bs p k b ∧ Below w.heap.size w (W.setCell ⟨X, i, none⟩ v) ∧
 (W.setCell ⟨X, i, none⟩ v).heap[w.heap.size]? = some (.cells #[.slice none 0 0, .slice none 0 0, .slice none 0 0, .slice none 0 0, .slice none 0 0, .int .i64 0, .int .i64 0] 32 (0, 0)) ∧
 (W.setCell ⟨X, i, none⟩ v).heap[X]? = some (.cells (#[vT, vN, vS, vM, vC, .int .i64 P.dep, .int .i64 P.loc].setIfInBounds i v) 32 (0, 0)) := by
 have h1 := h.gX
 have h2 := h.zg
 refine ⟨h.rd.far (show g ≠ X by omega) _, h.below.setCell (show w.heap.size ≤ X by omega) _, ?_, ?_⟩
 ·
  rw [Below.heap_setCell _ _ _ _ (show w.heap.size ≠ X by omega)]; exact h.z
 ·
  simp [World.setCell, h.x, Array.getElem?_modify]
theorem StD.put0 (h : StD w W g X bs p k b vT vN vS vM vC P) {v : Value} {l : List ByteArray} (hv : Kd.string.R 9 W w.heap.size (fun k => X < k) v l) : StD w (W.setCell ⟨X, 0, none⟩ v) g X bs p k b v vN vS vM vC { P with T := l } := by
  obtain ⟨a, b, c, d⟩ := h.store 0 v
  exact ⟨a, b, c, d, h.gX, h.zg, far_ hv, far_ h.rN, far_ h.rS, far_ h.rM, far_ h.rC⟩
theorem StD.put1 (h : StD w W g X bs p k b vT vN vS vM vC P) {v : Value} {l : List Int} (hv : (Kd.int .i64).R 3 W w.heap.size (fun k => X < k) v l) : StD w (W.setCell ⟨X, 1, none⟩ v) g X bs p k b vT v vS vM vC { P with N := l } := by
  obtain ⟨a, b, c, d⟩ := h.store 1 v
  exact ⟨a, b, c, d, h.gX, h.zg, far_ h.rT, far_ hv, far_ h.rS, far_ h.rM, far_ h.rC⟩
theorem StD.put5 (h : StD w W g X bs p k b vT vN vS vM vC P) (n : Int) : StD w (W.setCell ⟨X, 5, none⟩ (.int .i64 n)) g X bs p k b vT vN vS vM vC { P with dep := n } := by
  obtain ⟨a, b, c, d⟩ := h.store 5 (.int .i64 n)
  exact ⟨a, b, c, d, h.gX, h.zg, far_ h.rT, far_ h.rN, far_ h.rS, far_ h.rM, far_ h.rC⟩
theorem StD.put6 (h : StD w W g X bs p k b vT vN vS vM vC P) (n : Int) : StD w (W.setCell ⟨X, 6, none⟩ (.int .i64 n)) g X bs p k b vT vN vS vM vC { P with loc := n } := by
  obtain ⟨a, b, c, d⟩ := h.store 6 (.int .i64 n)
  exact ⟨a, b, c, d, h.gX, h.zg, far_ h.rT, far_ h.rN, far_ h.rS, far_ h.rM, far_ h.rC⟩
theorem StD.sets {vS2 vM2 : Value} {S : List (List ByteArray)} {M : List (List Int)} {d l : Value} (h : StD w W g X bs p k b vT vN vS vM vC P) (hq : StQ w W W2 g X bs p2 k2 b2 vT vN vS2 vM2 vC d l S M) (hd : d = .int .i64 P.dep) (hl : l = .int .i64 P.loc) : StD w W2 g X bs p2 k2 b2 vT vN vS2 vM2 vC { P with S := S, M := M } := by
  subst hd hl
  have h1 := h.gX
  have h2 := h.zg
  have hs := h.below.size
  have hx := blk_lt h.x
  have far : ∀ {α : Type} {d : Kd α} {t : Nat} {v : Value} {l : List α}, d.R t W w.heap.size (fun k => X < k) v l → d.R t W2 w.heap.size (fun k => X < k) v l := fun hv =>
    Kd.R_step hv (fun j hj hlt => hq.keep.2 j hlt (by omega) (fun e => by have := Option.some.inj e; omega))
  exact ⟨hq.rd, hq.below, (hq.keep.2 _ (blk_lt h.z) (by omega) (fun e => by have := Option.some.inj e; omega)).trans h.z, hq.blk, h1, h2, far h.rT, far h.rN, Kd.R_lower (Kd.R_mono hq.rS (fun j hj => by omega)) hs, Kd.R_lower (Kd.R_mono hq.rM (fun j hj => by omega)) hs, far h.rC⟩
theorem StD.grown (h : StD w W g X bs p k b vT vN vS vM vC P) (hg : W.grownBy W2 vC.ownBlock) {v2 : Value} {l2 : List S74} (hv : k74.R 74 W2 w.heap.size (fun k => X < k) v2 l2) :
 StD w (W2.setCell ⟨X, 4, none⟩ v2) g X bs p k b vT vN vS vM v2 { P with C := l2 } := by
 have h1 := h.gX
 have h2 := h.zg
 have hC : ∀ k, vC.ownBlock = some k → X < k := h.rC.1
 have hb : ∀ k o, k ≤ X → W.heap[k]? = some o → W2.heap[k]? = some o := fun k o hk ho => (hg.block k (blk_lt ho) (fun e => by have := hC k e.symm; omega)).trans ho
 have e : ∀ k, k ≠ X → (W2.setCell ⟨X, 4, none⟩ v2).heap[k]? = W2.heap[k]? := fun k hk => Below.heap_setCell _ _ _ _ (by simpa using hk)
 refine ⟨(h.rd.grown hg (fun e => by have := hC g e.symm; omega)).far (show g ≠ X by omega) _, (h.below.grown hg h.below.size (fun k e => by have := hC k e; omega)).setCell (by simp; omega) _, ?_, ?_, h1, h2, far_ (Kd.R_over h.rT h.rC (by decide) hg), far_ (Kd.R_over h.rN h.rC (by decide) hg), far_ (Kd.R_over h.rS h.rC (by decide) hg), far_ (Kd.R_over h.rM h.rC (by decide) hg), far_ hv⟩
 ·
  rw [e _ (by omega)]; exact hb _ _ (by omega) h.z
 ·
  have := hb X _ (Nat.le_refl _) h.x
  simp [World.setCell, this, Array.getElem?_modify]
theorem StD.done (h : StD w W g X bs p k b vT vN vS vM vC P) :
    Below w.heap.size w (setZ W w.heap.size vT vN vS vM vC (.int .i64 P.dep) (.int .i64 P.loc)) ∧ (setZ W w.heap.size vT vN vS vM vC (.int .i64 P.dep) (.int .i64 P.loc)).heap[w.heap.size]? = some (.cells #[vT, vN, vS, vM, vC, .int .i64 P.dep, .int .i64 P.loc] 32 (0, 0)) ∧
    IsPg w.heap.size P (.agg #[vT, vN, vS, vM, vC, .int .i64 P.dep, .int .i64 P.loc]) (setZ W w.heap.size vT vN vS vM vC (.int .i64 P.dep) (.int .i64 P.loc)) := by
  have h1 := h.gX
  have h2 := h.zg
  have e : ∀ k, k ≠ w.heap.size → (setZ W w.heap.size vT vN vS vM vC (.int .i64 P.dep) (.int .i64 P.loc)).heap[k]? = W.heap[k]? := setZ_other _ _ _ _ _ _ _ _ _
  have far : ∀ {α : Type} {d : Kd α} {t : Nat} {v : Value} {l : List α}, d.R t W w.heap.size (fun k => X < k) v l → d.R t (setZ W w.heap.size vT vN vS vM vC (.int .i64 P.dep) (.int .i64 P.loc)) w.heap.size (fun _ => True) v l := fun hv =>
    Kd.R_mono (Kd.R_step hv (fun k hk _ => e k (by omega))) (fun _ _ => trivial)
  refine ⟨?_, setZ_heap _ _ _ _ _ _ _ _ _ ⟨_, _, _, _, _, _, _, h.z⟩, ⟨vT, vN, vS, vM, vC, rfl, far h.rT, far h.rN, far h.rS, far h.rM, far h.rC⟩⟩
  unfold setZ
  exact ((((((h.below.setCell (by simp) _).setCell (by simp) _).setCell (by simp) _).setCell (by simp) _).setCell (by simp) _).setCell (by simp) _).setCell (by simp) _
end
theorem results16 (tmps : Array Value) (w : World) (P : Nat) (cs : Array Value) (a b : Value) (h2 : tmps.getD 2 undef = .pointer (some ⟨P, 0, none⟩)) (h3 : tmps.getD 3 undef = a) (h4 : tmps.getD 4 undef = b) (hP : w.heap[P]? = some (.cells cs 32 (0, 0))) (hcs : cs.size = 7) :
    (results Try.f16 tmps).run Try.prog w = .ok (.tuple #[.agg cs, a, b]) w := by
  have hl := run_loadVar_row (P := Try.prog) w P 32 32 cs (0, 0) _ hP Try.underlying32 rfl (by rw [hcs]; kernel_rfl)
  have h2' : tmps[2]?.getD undef = .pointer (some ⟨P, 0, none⟩) := by simpa using h2
  have h3' : tmps[3]?.getD undef = a := by simpa using h3
  have h4' : tmps[4]?.getD undef = b := by simpa using h4
  simp [results, Try.results16, h2', h3', h4', asAddr, hl]
theorem zz_cell (W : World) (Z x i : Nat) (v : Value) (hx : x ≠ Z) (h : W.cell? ⟨x, i, none⟩ = some v) :
    (((((((W.setCell ⟨Z, 0, none⟩ (.slice none 0 0)).setCell ⟨Z, 1, none⟩ (.slice none 0 0)).setCell ⟨Z, 2, none⟩ (.slice none 0 0)).setCell ⟨Z, 3, none⟩ (.slice none 0 0)).setCell ⟨Z, 4, none⟩ (.slice none 0 0)).setCell ⟨Z, 5, none⟩ (.int .i64 0)).setCell ⟨Z, 6, none⟩ (.int .i64 0)).cell? ⟨x, i, none⟩ = some v := by
  have this : ∀ W2 : World, W2.heap[x]? = W.heap[x]? → W2.cell? ⟨x, i, none⟩ = some v := fun W2 e => by rw [World.cell?_of_block e, h]
  refine this _ ?_
  rw [Below.heap_setCell _ _ _ _ (by simpa using hx), Below.heap_setCell _ _ _ _ (by simpa using hx), Below.heap_setCell _ _ _ _ (by simpa using hx), Below.heap_setCell _ _ _ _ (by simpa using hx), Below.heap_setCell _ _ _ _ (by simpa using hx), Below.heap_setCell _ _ _ _ (by simpa using hx), Below.heap_setCell _ _ _ _ (by simpa using hx)]
theorem zz_cellD (W : World) (Z x i : Nat) (v : Value) (hx : x ≠ Z) (h : W.cell? ⟨x, i, none⟩ = some v) :
    (((((((W.setCell ⟨Z, 0, none⟩ (.slice none 0 0)).setCell ⟨Z, 1, none⟩ (.slice none 0 0)).setCell ⟨Z, 2, none⟩ (.slice none 0 0)).setCell ⟨Z, 3, none⟩ (.slice none 0 0)).setCell ⟨Z, 4, none⟩ (.slice none 0 0)).setCell ⟨Z, 5, none⟩ (.int .i64 0)).setCell ⟨Z, 6, none⟩ (.int .i64 0)).drew.cell? ⟨x, i, none⟩ = some v := by
  have := zz_cell W Z x i v hx h
  generalize (((((((W.setCell ⟨Z, 0, none⟩ (.slice none 0 0)).setCell ⟨Z, 1, none⟩ (.slice none 0 0)).setCell ⟨Z, 2, none⟩ (.slice none 0 0)).setCell ⟨Z, 3, none⟩ (.slice none 0 0)).setCell ⟨Z, 4, none⟩ (.slice none 0 0)).setCell ⟨Z, 5, none⟩ (.int .i64 0)).setCell ⟨Z, 6, none⟩ (.int .i64 0)) = V at this ⊢
  exact this
theorem zz_blk (W : World) (Z : Nat) (h : W.heap[Z]? = some (.cells #[.slice none 0 0, .slice none 0 0, .slice none 0 0, .slice none 0 0, .slice none 0 0, .int .i64 0, .int .i64 0] 32 (0, 0))) :
    (((((((W.setCell ⟨Z, 0, none⟩ (.slice none 0 0)).setCell ⟨Z, 1, none⟩ (.slice none 0 0)).setCell ⟨Z, 2, none⟩ (.slice none 0 0)).setCell ⟨Z, 3, none⟩ (.slice none 0 0)).setCell ⟨Z, 4, none⟩ (.slice none 0 0)).setCell ⟨Z, 5, none⟩ (.int .i64 0)).setCell ⟨Z, 6, none⟩ (.int .i64 0)).heap[Z]? = some (.cells #[.slice none 0 0, .slice none 0 0, .slice none 0 0, .slice none 0 0, .slice none 0 0, .int .i64 0, .int .i64 0] 32 (0, 0)) := by
  have := setZ_heap W Z (.slice none 0 0) (.slice none 0 0) (.slice none 0 0) (.slice none 0 0) (.slice none 0 0) (.int .i64 0) (.int .i64 0) ⟨_, _, _, _, _, _, _, h⟩
  unfold setZ at this
  exact this
theorem zz_below (w W : World) (h : Below w.heap.size w W) : Below w.heap.size w (((((((W.setCell ⟨w.heap.size, 0, none⟩ (.slice none 0 0)).setCell ⟨w.heap.size, 1, none⟩ (.slice none 0 0)).setCell ⟨w.heap.size, 2, none⟩ (.slice none 0 0)).setCell ⟨w.heap.size, 3, none⟩ (.slice none 0 0)).setCell ⟨w.heap.size, 4, none⟩ (.slice none 0 0)).setCell ⟨w.heap.size, 5, none⟩ (.int .i64 0)).setCell ⟨w.heap.size, 6, none⟩ (.int .i64 0)) :=
  ((((((h.setCell (by simp) _).setCell (by simp) _).setCell (by simp) _).setCell (by simp) _).setCell (by simp) _).setCell (by simp) _).setCell (by simp) _
theorem ends_bad {F : Except (Int × Int) (Pg × Int)} {kf bf : Int} {gf z : Pg} (h : Ends F kf bf gf) (hk : kf ≠ 0) : match (generalizing := false) F with | .ok (h, _) => kf = 0 ∧ z = h | .error (k, q) => kf = k ∧ bf = q ∧ z = z := by
  cases F with
  | error f => exact ⟨h.2.1, h.2.2, rfl⟩
  | ok g => exact absurd h.1 hk
theorem ends_good {F : Except (Int × Int) (Pg × Int)} {gf z : Pg} (h : Ends F 0 0 gf) : match (generalizing := false) F with | .ok (h, _) => (0 : Int) = 0 ∧ gf = h | .error (k, q) => (0 : Int) = k ∧ (0 : Int) = q ∧ gf = z := by
  cases F with
  | error f => exact absurd h.2.1.symm h.1
  | ok g => exact ⟨rfl, h.2⟩
end Go.Proofs.Ytlocnfkkfpfpfaa.D
