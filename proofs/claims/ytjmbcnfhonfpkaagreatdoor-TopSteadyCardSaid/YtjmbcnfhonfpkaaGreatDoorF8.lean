import Derived.Test.YtjmbcnfhonfpkaaGreatDoorF7
/- Regions whose order the machine draws. -/
set_option linter.unusedVariables false
set_option linter.unusedSimpArgs false
namespace Go.Gim
open Go.RowKit

def X.slots : X → List Nat
 | .t n => [n]
 | .c _ => []
 | .g _ => []
def AOp.reads : AOp → List Nat
 | .mov x => x.slots
 | .pick c a b => c.slots ++ a.slots ++ b.slots
 | .bin _ x y => x.slots ++ y.slots
 | .un _ x => x.slots
 | .conv _ x => x.slots
 | .eqB _ x y => x.slots ++ y.slots
 | .len _ x => x.slots
 | .mm _ x xs => x.slots ++ xs.flatMap X.slots
 | .ext x _ => x.slots
 | .build _ parts => parts.flatMap fun p => p.2.2.slots
 | .fld _ _ _ x => x.slots
 | .nilchk x => x.slots
 | .mkFn _ caps => caps.flatMap X.slots
 | .call _ args => args.flatMap X.slots
 | .callV x args => x.slots ++ args.flatMap X.slots
 | .alloc _ _ => []
 | .boxP x => x.slots
 | .load _ _ x => x.slots
 | .loadN _ _ x av => x.slots ++ av
 | .store _ p x => p.slots ++ x.slots
 | .fldA _ _ _ x => x.slots
 | .idxA _ x i => x.slots ++ i.slots
 | .arrA _ _ _ x i => x.slots ++ i.slots
 | .red _ xs => xs.flatMap X.slots
 | .new _ xs => xs.flatMap X.slots
 | .eff _ xs => xs.flatMap X.slots
 | .callG _ args => args.flatMap X.slots
 | .callGV x args => x.slots ++ args.flatMap X.slots
 | .win _ x lo hi => x.slots ++ lo.slots ++ hi.slots
 | .winF _ x lo => x.slots ++ lo.slots
 | .isnil _ _ x => x.slots
def AOp.cls : AOp → Nat
 | .len .. => 1
 | .nilchk .. => 1
 | .load .. => 1
 | .loadN .. => 1
 | .fldA .. => 1
 | .idxA .. => 1
 | .arrA .. => 1
 | .alloc .. => 2
 | .store .. => 3
 | .new .. => 2
 | .eff .. => 3
 | .callG .. => 3
 | .callGV .. => 3
 | .win .. => 1
 | .winF .. => 1
 | .isnil .. => 1
 | _ => 0

def app (H : Hp) (id : Nat) : Option Blk → Hp
 | none => H
 | some b => H.upd id (some b)

theorem ev_eq {S : St} {env' : Nat → V} {H : Hp} {nx hi : Nat} {x : X} (h : ∀ s ∈ x.slots, env' s = S.env s) : St.ev ⟨env', H, nx, hi⟩ x = S.ev x := by
 cases x with
 | t n => exact h n (by simp [X.slots])
 | c v => rfl
 | g n => rfl
theorem evs_eq {S : St} {env' : Nat → V} {H : Hp} {nx hi : Nat} {xs : List X} (h : ∀ s ∈ xs.flatMap X.slots, env' s = S.env s) : xs.map (St.ev ⟨env', H, nx, hi⟩) = xs.map S.ev :=
 List.map_congr_left fun x hx => ev_eq fun s hs => h s (List.mem_flatMap.2 ⟨x, hx, hs⟩)
theorem evs_all {S : St} {env' : Nat → V} {H : Hp} {nx hi : Nat} {xs : List X} (p : V → Prop) (h : ∀ s ∈ xs.flatMap X.slots, env' s = S.env s) (hp : ∀ x ∈ xs, p (S.ev x)) : ∀ x ∈ xs, p (St.ev ⟨env', H, nx, hi⟩ x) :=
 fun x hx => by rw [ev_eq fun s hs => h s (List.mem_flatMap.2 ⟨x, hx, hs⟩)]; exact hp x hx

theorem step_move {P : Program} {id : Nat} {op : AOp} {S : St} {v : V} {H : Hp} (hc : op.cls ≤ 2) (h : step1 P true id op S v H) :
  ∃ eff, H = app S.H id eff ∧ ∀ env' H2 h2, (∀ s ∈ op.reads, env' s = S.env s) → (op.cls = 0 ∨ ∀ b, b < S.nx → H2 b = S.H b) → step1 P true id op ⟨env', H2, S.nx, h2⟩ v (app H2 id eff) := by
 cases op with
 | mov x =>
  obtain ⟨rfl, rfl⟩ := h
  exact ⟨none, rfl, fun env' H2 h2' hr _ => ⟨ev_eq hr, rfl⟩⟩
 | pick c a b =>
  dsimp only [step1] at h
  split at h
  ·rename_i t ht
   obtain ⟨rfl, rfl⟩ := h
   refine ⟨none, rfl, fun env' H2 h2' hr _ => ?_⟩
   simp only [AOp.reads, List.mem_append] at hr
   dsimp only [step1]
   rw [ev_eq (S := S) (x := c) fun s hs => hr s (.inl (.inl hs)), ht]
   exact ⟨by rw [ev_eq (S := S) (x := a) fun s hs => hr s (.inl (.inr hs)), ev_eq (S := S) (x := b) fun s hs => hr s (.inr hs)], rfl⟩
  ·exact h.elim
 | bin op x y =>
  obtain ⟨h, rfl⟩ := h
  refine ⟨none, rfl, fun env' H2 h2' hr _ => ?_⟩
  simp only [AOp.reads, List.mem_append] at hr
  exact ⟨by rw [ev_eq (S := S) (x := x) fun s hs => hr s (.inl hs), ev_eq (S := S) (x := y) fun s hs => hr s (.inr hs)]; exact h, rfl⟩
 | un op x =>
  obtain ⟨h, rfl⟩ := h
  exact ⟨none, rfl, fun env' H2 h2' hr _ => ⟨by rw [ev_eq hr]; exact h, rfl⟩⟩
 | conv k x =>
  dsimp only [step1] at h
  split at h
  ·rename_i k' n ht
   obtain ⟨rfl, rfl⟩ := h
   refine ⟨none, rfl, fun env' H2 h2' hr _ => ?_⟩
   dsimp only [step1]
   rw [ev_eq (S := S) (x := x) hr, ht]
   exact ⟨rfl, rfl⟩
  ·exact h.elim
 | eqB n x y =>
  dsimp only [step1] at h
  split at h
  ·rename_i p q h1 h2
   obtain ⟨rfl, rfl⟩ := h
   refine ⟨none, rfl, fun env' H2 h2' hr _ => ?_⟩
   simp only [AOp.reads, List.mem_append] at hr
   dsimp only [step1]
   rw [ev_eq (S := S) (x := x) fun s hs => hr s (.inl hs), ev_eq (S := S) (x := y) fun s hs => hr s (.inr hs), h1, h2]
   exact ⟨rfl, rfl⟩
  ·exact h.elim
 | len str x =>
  dsimp only [step1] at h
  split at h
  ·rename_i b n hx
   obtain ⟨h1, ⟨blk, k1, k2⟩, h3, h4, rfl⟩ := h
   refine ⟨none, rfl, fun env' H2 h2' hr hH => ?_⟩
   dsimp only [step1]
   rw [ev_eq (S := S) (x := x) hr, hx]
   have hH := hH.resolve_left (by simp [AOp.cls])
   exact ⟨h1, ⟨blk, by rw [hH b (h4 rfl)]; exact k1, k2⟩, h3, fun _ => h4 rfl, rfl⟩
  ·rename_i y hy
   obtain ⟨h1, rfl⟩ := h
   refine ⟨none, rfl, fun env' H2 h2' hr hH => ?_⟩
   dsimp only [step1]
   rw [ev_eq (S := S) (x := x) hr]
   split
   ·rename_i b n hx; exact absurd hx (hy b n)
   ·exact ⟨h1, rfl⟩
 | mm mx x xs =>
  obtain ⟨h, rfl⟩ := h
  refine ⟨none, rfl, fun env' H2 h2' hr _ => ?_⟩
  simp only [AOp.reads, List.mem_append] at hr
  exact ⟨by rw [ev_eq (S := S) (x := x) fun s hs => hr s (.inl hs), evs_eq (S := S) (xs := xs) fun s hs => hr s (.inr hs)]; exact h, rfl⟩
 | ext x i =>
  dsimp only [step1] at h
  split at h
  ·rename_i vs hx
   obtain ⟨h, rfl⟩ := h
   refine ⟨none, rfl, fun env' H2 h2' hr _ => ?_⟩
   dsimp only [step1]
   rw [ev_eq (S := S) (x := x) hr, hx]
   exact ⟨h, rfl⟩
  ·exact h.elim
 | build z parts =>
  obtain ⟨h, rfl⟩ := h
  refine ⟨none, rfl, fun env' H2 h2' hr _ => ⟨?_, rfl⟩⟩
  have : (parts.map fun p => (p.1, p.2.1, St.ev ⟨env', H2, S.nx, h2'⟩ p.2.2)) = parts.map fun p => (p.1, p.2.1, S.ev p.2.2) :=
   List.map_congr_left fun p hp => by rw [ev_eq (S := S) (x := p.2.2) fun s hs => hr s (List.mem_flatMap.2 ⟨p, hp, hs⟩)]
  rw [this]; exact h
 | fld off size ag x =>
  dsimp only [step1] at h
  split at h
  ·rename_i cs hx
   obtain ⟨h, rfl⟩ := h
   refine ⟨none, rfl, fun env' H2 h2' hr _ => ?_⟩
   dsimp only [step1]
   rw [ev_eq (S := S) (x := x) hr, hx]
   exact ⟨h, rfl⟩
  ·exact h.elim
 | nilchk x =>
  dsimp only [step1] at h
  split at h
  ·rename_i u hx
   obtain ⟨rfl, rfl⟩ := h
   refine ⟨none, rfl, fun env' H2 h2' hr _ => ?_⟩
   dsimp only [step1]
   rw [ev_eq (S := S) (x := x) hr, hx]
   exact ⟨rfl, rfl⟩
  ·rename_i b n i off hx
   obtain ⟨h0, rfl, ⟨blk, k1, k2⟩, rfl⟩ := h
   refine ⟨none, rfl, fun env' H2 h2' hr hH => ?_⟩
   dsimp only [step1]
   rw [ev_eq (S := S) (x := x) hr, hx]
   have hH := hH.resolve_left (by simp [AOp.cls])
   exact ⟨h0, rfl, ⟨blk, by rw [hH b (h0 rfl)]; exact k1, k2⟩, rfl⟩
  ·rename_i f cs hx
   obtain ⟨rfl, rfl⟩ := h
   refine ⟨none, rfl, fun env' H2 h2' hr _ => ?_⟩
   dsimp only [step1]
   rw [ev_eq (S := S) (x := x) hr, hx]
   exact ⟨rfl, rfl⟩
  ·exact h.elim
 | mkFn f caps =>
  obtain ⟨rfl, rfl⟩ := h
  exact ⟨none, rfl, fun env' H2 h2' hr _ => ⟨by rw [evs_eq (S := S) hr], rfl⟩⟩
 | call f args =>
  obtain ⟨h1, h2, rfl⟩ := h
  exact ⟨none, rfl, fun env' H2 h2' hr _ => ⟨evs_all (S := S) V.Pure hr h1, by rw [evs_eq (S := S) hr]; exact h2, rfl⟩⟩
 | callV x args =>
  dsimp only [step1] at h
  split at h
  ·rename_i f caps hx
   obtain ⟨h1, h2, h3, rfl⟩ := h
   refine ⟨none, rfl, fun env' H2 h2' hr _ => ?_⟩
   simp only [AOp.reads, List.mem_append] at hr
   dsimp only [step1]
   rw [ev_eq (S := S) (x := x) fun s hs => hr s (.inl hs), hx]
   exact ⟨evs_all (S := S) V.Pure (fun s hs => hr s (.inr hs)) h1, h2, by rw [evs_eq (S := S) fun s hs => hr s (.inr hs)]; exact h3, rfl⟩
  ·exact h.elim
 | alloc size z =>
  obtain ⟨h1, rfl, rfl⟩ := h
  exact ⟨some ⟨[z], size⟩, rfl, fun env' H2 h2' _ _ => ⟨h1, rfl, rfl⟩⟩
 | boxP x =>
  obtain ⟨h1, h2, rfl, rfl⟩ := h
  exact ⟨none, rfl, fun env' H2 h2' hr _ => ⟨by rw [ev_eq (S := S) hr]; exact h1, by rw [ev_eq (S := S) hr]; exact h2, by rw [ev_eq (S := S) hr], rfl⟩⟩
 | load size ag x =>
  dsimp only [step1] at h
  split at h
  ·rename_i u hx
   obtain ⟨h, rfl⟩ := h
   refine ⟨none, rfl, fun env' H2 h2' hr _ => ?_⟩
   dsimp only [step1]
   rw [ev_eq (S := S) (x := x) hr, hx]
   exact ⟨h, rfl⟩
  ·rename_i b n i off hx
   obtain ⟨h0, ⟨blk, e, k1, k2⟩, rfl⟩ := h
   refine ⟨none, rfl, fun env' H2 h2' hr hH => ?_⟩
   dsimp only [step1]
   rw [ev_eq (S := S) (x := x) hr, hx]
   have hH := hH.resolve_left (by simp [AOp.cls])
   exact ⟨h0, ⟨blk, e, by rw [hH b (h0 rfl)]; exact k1, k2⟩, rfl⟩
  ·exact h.elim
 | loadN size ag x av =>
  dsimp only [step1] at h
  split at h
  ·rename_i u hx
   obtain ⟨h, rfl⟩ := h
   refine ⟨none, rfl, fun env' H2 h2' hr _ => ?_⟩
   simp only [AOp.reads, List.mem_append] at hr
   dsimp only [step1]
   rw [ev_eq (S := S) (x := x) fun s hs => hr s (.inl hs), hx]
   exact ⟨h, rfl⟩
  ·rename_i b n i off hx
   obtain ⟨hcl, h0, ⟨blk, e, k1, k2⟩, rfl⟩ := h
   refine ⟨none, rfl, fun env' H2 h2' hr hH => ?_⟩
   simp only [AOp.reads, List.mem_append] at hr
   dsimp only [step1]
   rw [ev_eq (S := S) (x := x) fun s hs => hr s (.inl hs), hx]
   have hH := hH.resolve_left (by simp [AOp.cls])
   refine ⟨?_, h0, ⟨blk, e, by rw [hH b (h0 rfl)]; exact k1, k2⟩, rfl⟩
   rw [List.map_congr_left (g := S.env) fun s hs => hr s (.inr hs)]
   exact hcl
  ·exact h.elim
 | store size p x => simp [AOp.cls] at hc
 | eff f xs => simp [AOp.cls] at hc
 | callG f args => exact h.elim
 | callGV x args => exact h.elim
 | winF es x lo =>
  dsimp only [step1] at h
  split at h
  ·rename_i b n k1 l q1 q2
   obtain ⟨h1, h2, rfl, ⟨blk, b1, b2⟩, h0, rfl⟩ := h
   refine ⟨none, rfl, fun env' H2 h2' hr hH => ?_⟩
   simp only [AOp.reads, List.mem_append] at hr
   dsimp only [step1]
   rw [ev_eq (S := S) (x := x) fun s hs => hr s (.inl hs), ev_eq (S := S) (x := lo) fun s hs => hr s (.inr hs), q1, q2]
   have hH := hH.resolve_left (by simp [AOp.cls])
   exact ⟨h1, h2, rfl, ⟨blk, by rw [hH b (h0 rfl)]; exact b1, b2⟩, h0, rfl⟩
  ·exact h.elim
 | win es x lo hi =>
  dsimp only [step1] at h
  split at h
  ·rename_i b n k1 l k2 hh q1 q2 q3
   obtain ⟨h1, h2, h3, rfl, ⟨blk, b1, b2⟩, h0, rfl⟩ := h
   refine ⟨none, rfl, fun env' H2 h2' hr hH => ?_⟩
   simp only [AOp.reads, List.mem_append] at hr
   dsimp only [step1]
   rw [ev_eq (S := S) (x := x) fun s hs => hr s (.inl (.inl hs)), ev_eq (S := S) (x := lo) fun s hs => hr s (.inl (.inr hs)), ev_eq (S := S) (x := hi) fun s hs => hr s (.inr hs), q1, q2, q3]
   have hH := hH.resolve_left (by simp [AOp.cls])
   exact ⟨h1, h2, h3, rfl, ⟨blk, by rw [hH b (h0 rfl)]; exact b1, b2⟩, h0, rfl⟩
  ·exact h.elim
 | isnil k neg x =>
  have key : ∀ env' H2 h2', (∀ s ∈ x.slots, env' s = S.env s) → (∀ b, b < S.nx → H2 b = S.H b) → step1 P true id (.isnil k neg x) ⟨env', H2, S.nx, h2'⟩ v H2 ∧ H = S.H := fun env' H2 h2' hr hH => by
   dsimp only [step1] at h ⊢
   rw [ev_eq (S := S) (x := x) hr]
   split at h
   ·obtain ⟨rfl, rfl⟩ := h; exact ⟨⟨rfl, rfl⟩, rfl⟩
   ·obtain ⟨rfl, ⟨blk, b1, b2⟩, h0, rfl⟩ := h; exact ⟨⟨rfl, ⟨blk, by rw [hH _ (h0 rfl)]; exact b1, b2⟩, h0, rfl⟩, rfl⟩
   ·obtain ⟨rfl, ⟨blk, b1, b2⟩, h0, rfl⟩ := h; exact ⟨⟨rfl, ⟨blk, by rw [hH _ (h0 rfl)]; exact b1, b2⟩, h0, rfl⟩, rfl⟩
   ·obtain ⟨rfl, rfl⟩ := h; exact ⟨⟨rfl, rfl⟩, rfl⟩
   ·obtain ⟨rfl, rfl⟩ := h; exact ⟨⟨rfl, rfl⟩, rfl⟩
   ·obtain ⟨rfl, ⟨blk, b1, b2⟩, h0, rfl⟩ := h; exact ⟨⟨rfl, ⟨blk, by rw [hH _ (h0 rfl)]; exact b1, b2⟩, h0, rfl⟩, rfl⟩
   ·obtain ⟨rfl, rfl⟩ := h; exact ⟨⟨rfl, rfl⟩, rfl⟩
   ·obtain ⟨rfl, rfl⟩ := h; exact ⟨⟨rfl, rfl⟩, rfl⟩
   ·exact h.elim
  exact ⟨none, (key S.env S.H S.hi (fun _ _ => rfl) fun _ _ => rfl).2, fun env' H2 h2' hr hH => (key env' H2 h2' hr (hH.resolve_left (by simp [AOp.cls]))).1⟩
 | red f xs =>
  obtain ⟨h, rfl⟩ := h
  exact ⟨none, rfl, fun env' H2 h2' hr _ => ⟨by rw [evs_eq (S := S) hr]; exact h, rfl⟩⟩
 | new f xs =>
  obtain ⟨n, blk, h, rfl, rfl⟩ := h
  exact ⟨some blk, rfl, fun env' H2 h2' hr _ => ⟨n, blk, by rw [evs_eq (S := S) hr]; exact h, rfl, rfl⟩⟩
 | fldA off size ag x =>
  dsimp only [step1] at h
  split at h
  ·rename_i u hx
   obtain ⟨h, rfl⟩ := h
   refine ⟨none, rfl, fun env' H2 h2' hr _ => ?_⟩
   dsimp only [step1]
   rw [ev_eq (S := S) (x := x) hr, hx]
   exact ⟨h, rfl⟩
  ·rename_i b n i o hx
   obtain ⟨h0, rfl, ⟨blk, k1, k2⟩, rfl⟩ := h
   refine ⟨none, rfl, fun env' H2 h2' hr hH => ?_⟩
   dsimp only [step1]
   rw [ev_eq (S := S) (x := x) hr, hx]
   have hH := hH.resolve_left (by simp [AOp.cls])
   exact ⟨h0, rfl, ⟨blk, by rw [hH b (h0 rfl)]; exact k1, k2⟩, rfl⟩
  ·exact h.elim
 | arrA n size ag x i =>
  dsimp only [step1] at h
  split at h
  ·rename_i b m k o kk j hx hi
   obtain ⟨h1, rfl, ⟨blk, k1, k2⟩, h0, rfl⟩ := h
   refine ⟨none, rfl, fun env' H2 h2' hr hH => ?_⟩
   simp only [AOp.reads, List.mem_append] at hr
   dsimp only [step1]
   rw [ev_eq (S := S) (x := x) fun s hs => hr s (.inl hs), ev_eq (S := S) (x := i) fun s hs => hr s (.inr hs), hx, hi]
   have hH := hH.resolve_left (by simp [AOp.cls])
   exact ⟨h1, rfl, ⟨blk, by rw [hH b (h0 rfl)]; exact k1, k2⟩, h0, rfl⟩
  ·exact h.elim
 | idxA es x i =>
  dsimp only [step1] at h
  split at h
  ·rename_i xs k j hx hi
   obtain ⟨h1, h2, rfl⟩ := h
   refine ⟨none, rfl, fun env' H2 h2' hr _ => ?_⟩
   simp only [AOp.reads, List.mem_append] at hr
   dsimp only [step1]
   rw [ev_eq (S := S) (x := x) fun s hs => hr s (.inl hs), ev_eq (S := S) (x := i) fun s hs => hr s (.inr hs), hx, hi]
   exact ⟨h1, h2, rfl⟩
  ·rename_i b n k j hx hi
   obtain ⟨h1, h2, rfl, ⟨blk, k1, k2⟩, h0, rfl⟩ := h
   refine ⟨none, rfl, fun env' H2 h2' hr hH => ?_⟩
   simp only [AOp.reads, List.mem_append] at hr
   dsimp only [step1]
   rw [ev_eq (S := S) (x := x) fun s hs => hr s (.inl hs), ev_eq (S := S) (x := i) fun s hs => hr s (.inr hs), hx, hi]
   have hH := hH.resolve_left (by simp [AOp.cls])
   exact ⟨h1, h2, rfl, ⟨blk, by rw [hH b (h0 rfl)]; exact k1, k2⟩, h0, rfl⟩
  ·rename_i b n off len k j hx hi
   obtain ⟨h1, h2, h3, rfl, ⟨blk, k1, k2⟩, h0, rfl⟩ := h
   refine ⟨none, rfl, fun env' H2 h2' hr hH => ?_⟩
   simp only [AOp.reads, List.mem_append] at hr
   dsimp only [step1]
   rw [ev_eq (S := S) (x := x) fun s hs => hr s (.inl hs), ev_eq (S := S) (x := i) fun s hs => hr s (.inr hs), hx, hi]
   have hH := hH.resolve_left (by simp [AOp.cls])
   exact ⟨h1, h2, h3, rfl, ⟨blk, by rw [hH b (h0 rfl)]; exact k1, k2⟩, h0, rfl⟩
  ·exact h.elim

theorem loadN_move {P : Program} {id : Nat} {size : Nat} {ag : Bool} {x : X} {av : List Nat} {S : St} {v : V} {H : Hp} (h : step1 P true id (.loadN size ag x av) S v H) :
  H = S.H ∧ ∀ env' H2 h2, (∀ s ∈ (AOp.loadN size ag x av).reads, env' s = S.env s) → (H2 = S.H ∨ ∃ s ∈ av, ∃ c n i o, S.env s = .ptr c n i o ∧ ∀ b, b ≠ c → H2 b = S.H b) → step1 P true id (.loadN size ag x av) ⟨env', H2, S.nx, h2⟩ v H2 := by
 dsimp only [step1] at h
 split at h
 ·rename_i u hx
  obtain ⟨h, rfl⟩ := h
  refine ⟨rfl, fun env' H2 h2' hr _ => ?_⟩
  simp only [AOp.reads, List.mem_append] at hr
  dsimp only [step1]
  rw [ev_eq (S := S) (x := x) fun s hs => hr s (.inl hs), hx]
  exact ⟨h, rfl⟩
 ·rename_i b n i off hx
  obtain ⟨hcl, h0, ⟨blk, e, k1, k2⟩, rfl⟩ := h
  refine ⟨rfl, fun env' H2 h2' hr hH => ?_⟩
  simp only [AOp.reads, List.mem_append] at hr
  dsimp only [step1]
  rw [ev_eq (S := S) (x := x) fun s hs => hr s (.inl hs), hx]
  have hbb : H2 b = S.H b := by
   rcases hH with rfl | ⟨s, hs, c, n', i', o, hsv, hH⟩
   ·rfl
   ·exact hH b (Ne.symm (clash_at hcl c n' i' o (List.mem_map.2 ⟨s, hs, hsv⟩)))
  refine ⟨?_, h0, ⟨blk, e, by rw [hbb]; exact k1, k2⟩, rfl⟩
  rw [List.map_congr_left (g := S.env) fun s hs => hr s (.inr hs)]
  exact hcl
 ·exact h.elim

theorem step_env {P : Program} {id : Nat} {op : AOp} {S : St} {v : V} {H : Hp} (h : step1 P true id op S v H) (env' : Nat → V) (h2 : Nat) (hr : ∀ s ∈ op.reads, env' s = S.env s) : step1 P true id op ⟨env', S.H, S.nx, h2⟩ v H := by
 by_cases hc : op.cls ≤ 2
 ·obtain ⟨eff, rfl, h3⟩ := step_move hc h
  exact h3 env' S.H h2 hr (.inr fun _ _ => rfl)
 ·cases op <;> simp [AOp.cls] at hc
  ·rename_i size p x
   simp only [AOp.reads, List.mem_append] at hr
   simp only [step1] at h ⊢
   rw [ev_eq (S := S) (x := p) fun s hs => hr s (.inl hs), ev_eq (S := S) (x := x) fun s hs => hr s (.inr hs)]
   exact h
  ·rename_i f xs
   simp only [AOp.reads] at hr
   simp only [step1] at h ⊢
   rw [evs_eq (S := S) hr]
   exact h
  ·exact h.elim
  ·exact h.elim
theorem stepG_env {P : Program} {id : Nat} {op : AOp} {S S1 : St} {v : V} (h : stepG P true id op S v S1) : ∃ H hi, S1 = ⟨S.env, H, S.nx, hi⟩ ∧ ∀ env', (∀ s ∈ op.reads, env' s = S.env s) → stepG P true id op ⟨env', S.H, S.nx, S.hi⟩ v ⟨env', H, S.nx, hi⟩ := by
 have plain : (∃ H, step1 P true id op S v H ∧ S1 = ⟨S.env, H, S.nx, S.hi⟩) → ∃ H hi, S1 = ⟨S.env, H, S.nx, hi⟩ ∧ ∀ env', (∀ s ∈ op.reads, env' s = S.env s) → ∃ H', step1 P true id op ⟨env', S.H, S.nx, S.hi⟩ v H' ∧ (⟨env', H, S.nx, hi⟩ : St) = ⟨env', H', S.nx, S.hi⟩ := fun ⟨H, h1, h2⟩ =>
  ⟨H, S.hi, h2, fun env' hr => ⟨H, step_env h1 env' S.hi hr, rfl⟩⟩
 cases op with
 | callG f args =>
  rcases h with ⟨H, h', hret, rfl⟩ | ⟨h, _⟩
  ·refine ⟨H, h', rfl, fun env' hr => .inl ⟨H, h', ?_, rfl⟩⟩
   have := evs_eq (S := S) (H := S.H) (nx := S.nx) (hi := S.hi) (xs := args) hr
   rw [this]; exact hret
  ·cases h
 | callGV x args =>
  simp only [stepG] at h ⊢
  split at h
  ·rename_i f caps hx
   obtain ⟨H, h', hret, rfl⟩ := h
   refine ⟨H, h', rfl, fun env' hr => ?_⟩
   simp only [AOp.reads, List.mem_append] at hr
   rw [ev_eq (S := S) (x := x) fun s hs => hr s (.inl hs), hx]
   exact ⟨H, h', by rw [evs_eq (S := S) fun s hs => hr s (.inr hs)]; exact hret, rfl⟩
  ·exact h.elim
 | _ => exact plain h
theorem stepG_of1 {P : Program} {dr : Bool} {id : Nat} {op : AOp} {S : St} {v : V} {H : Hp} (h : step1 P dr id op S v H) : stepG P dr id op S v ⟨S.env, H, S.nx, S.hi⟩ := by
 cases op with
 | callG f args => exact h.elim
 | callGV x args => exact h.elim
 | _ => exact ⟨H, h, rfl⟩
theorem stepG_to1 {P : Program} {dr : Bool} {id : Nat} {op : AOp} {S S1 : St} {v : V} (hc : op.cls ≤ 2) (h : stepG P dr id op S v S1) : ∃ H, step1 P dr id op S v H ∧ S1 = ⟨S.env, H, S.nx, S.hi⟩ := by
 cases op with
 | callG f args => simp [AOp.cls] at hc
 | callGV x args => simp [AOp.cls] at hc
 | _ => exact h
end Go.Gim
