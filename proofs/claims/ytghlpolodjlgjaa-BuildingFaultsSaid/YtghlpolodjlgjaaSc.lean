/- The symbolic evaluator is sound: regions that draw their order (own work). First: an operation comes to the same in every state that says more. -/
import Derived.Test.YtghlpolodjlgjaaSv
namespace Go.Proofs.Ytghlpolodjlgjaa.Sy
open Go Go.RowKit
set_option linter.unusedVariables false
set_option linter.unusedSimpArgs false

/-- s says all that r says. -/
structure Sub (r s : ASt) (W V : List Nat) : Prop where
  slot : ∀ t g, r.slot t = some g → s.slot t = some g
  box : ∀ b, r.box b = some .tok ∨ r.box b = s.box b
  mem : ∀ t g, r.slot t = some g → mem t W = mem t V

section
variable {r s : ASt} {W V : List Nat} {own : List (Nat × Bool)} {C : Ctx} {o : Oper}

theorem opnd_mono (h : Sub r s W V) {ty : Option Ty} {x : Operand} {v : TV} (hx : opnd r own ty x = some v) : opnd s own ty x = some v := by
  cases x with
  | tmp t =>
    simp only [opnd] at hx ⊢
    split at hx
    · rename_i g hg; rw [h.slot t g hg]; exact hx
    · cases hx
  | _ => exact hx
theorem opnd1_mono (h : Sub r s W V) {ty : Option Ty} {x : Operand} {v : SV} (hx : opnd1 r own ty x = some v) : opnd1 s own ty x = some v := by
  unfold opnd1 at hx ⊢
  split at hx
  · rename_i s' hs'; rw [opnd_mono h hs']; exact hx
  · cases hx
theorem opndc_mono (h : Sub r s W V) {ty : Option Ty} {x : Operand} {v : Cell} (hx : opndc r own ty x = some v) : opndc s own ty x = some v := by
  unfold opndc at hx ⊢
  split at hx
  · rename_i s' hs'; rw [opnd_mono h hs']; exact hx
  · cases hx
theorem allSV_mono (h : Sub r s W V) : ∀ {tys : List (Option Ty)} {xs : List Operand} {v : List SV}, allSV r own tys xs = some v → allSV s own tys xs = some v
  | _, [], _, hx => hx
  | tys, x :: xs, v, hx => by
    simp only [allSV] at hx ⊢
    split at hx
    · rename_i h1 h2; rw [opnd1_mono h h1, allSV_mono h h2]; exact hx
    · cases hx
theorem fillP_mono (h : Sub r s W V) {place : Nat → Option (Nat × Nat)} : ∀ {ps : List (Nat × Operand)} {cs v : List Cell}, fillP C r own place ps cs = some v → fillP C s own place ps cs = some v
  | [], _, _, hx => hx
  | (i, x) :: ps, cs, v, hx => by
    simp only [fillP] at hx ⊢
    split at hx
    case h_2 => cases hx
    rename_i tid off hp
    split at hx
    case h_2 => cases hx
    rename_i df sv hd hs
    obtain ⟨hc, hx⟩ := cnd_some hx
    simp only [hd, opnd1_mono h hs]
    rw [hc]
    exact fillP_mono h hx
theorem box_mono (h : Sub r s W V) {k : Nat} {x : Option Bx} (hx : r.box k = x) (hn : x ≠ some .tok) : s.box k = x := by
  rcases h.box k with h1 | h1
  · exact absurd (hx.symm.trans h1) hn
  · rw [← h1]; exact hx
theorem rdBox_mono (h : Sub r s W V) {k : Nat} {cs : List Cell} (hx : rdBox r k = some cs) : rdBox s k = some cs := by
  unfold rdBox at hx ⊢
  split at hx
  · rename_i h1; rw [box_mono h h1 (by simp)]; exact hx
  · rename_i h1; rw [box_mono h h1 (by simp)]; exact hx
  · cases hx

theorem unvC_mono (h : Sub r s W V) {fr : Bool} {c c' : Cell} (hx : unvC fr r c = some c') : unvC fr s c = some c' := by
  cases c with
  | vref e k =>
    simp only [unvC] at hx ⊢
    split at hx
    · rename_i h1; rw [box_mono h h1 (by simp)]; exact hx
    · rename_i h1; rw [box_mono h h1 (by simp)]; exact hx
    · cases hx
  | _ => exact hx
theorem unvL_mono (h : Sub r s W V) {fr : Bool} : ∀ {cs cs' : List Cell}, unvL fr r cs = some cs' → unvL fr s cs = some cs'
  | [], cs', hx => hx
  | c :: cs, cs', hx => by
    simp only [unvL] at hx ⊢
    split at hx
    case h_2 => cases hx
    rename_i h1 h2
    rw [unvC_mono h h1, unvL_mono h h2]; exact hx
theorem unvS_mono (h : Sub r s W V) {fr : Bool} {x y : SV} (hx : unvS fr r x = some y) : unvS fr s x = some y := by
  cases x with
  | one c =>
    simp only [unvS] at hx ⊢
    split at hx
    case h_2 => cases hx
    rename_i h1; rw [unvC_mono h h1]; exact hx
  | agg cs =>
    simp only [unvS] at hx ⊢
    split at hx
    case h_2 => cases hx
    rename_i h1; rw [unvL_mono h h1]; exact hx
theorem unvSs_mono (h : Sub r s W V) {fr : Bool} : ∀ {xs ys : List SV}, unvSs fr r xs = some ys → unvSs fr s xs = some ys
  | [], ys, hx => hx
  | x :: xs, ys, hx => by
    simp only [unvSs] at hx ⊢
    split at hx
    case h_2 => cases hx
    rename_i h1 h2
    rw [unvS_mono h h1, unvSs_mono h h2]; exact hx
theorem apSrc_mono (h : Sub r s W V) {el : Nat} {e : Ty} {c : Cell} {x : List e.den × Option Nat × Bool} (hx : apSrc r el e c = some x) : apSrc s el e c = some x := by
  cases c with
  | vref e1 k =>
    simp only [apSrc] at hx ⊢
    split at hx
    · rename_i h1; rw [box_mono h h1 (by simp)]; exact hx
    · cases hx
  | lst t tl l => cases tl <;> exact hx
  | _ => exact hx
theorem apNew_mono (h : Sub r s W V) {e : Ty} {c : Cell} {x : List e.den} (hx : apNew r e c = some x) : apNew s e c = some x := by
  cases c with
  | vref e1 k =>
    simp only [apNew] at hx ⊢
    split at hx
    · rename_i h1; rw [unvC_mono h h1]; exact hx
    · cases hx
  | _ => exact hx
theorem optI_mono (h : Sub r s W V) {x : Option Operand} {n : Int} (hx : optI r own x = some n) : optI s own x = some n := by
  cases x with
  | none => exact hx
  | some x =>
    simp only [optI] at hx ⊢
    split at hx
    · rename_i h1; rw [opndc_mono h h1]; exact hx
    · cases hx
theorem optH_mono (h : Sub r s W V) {x : Option Operand} {n0 n : Int} (hx : optH r own x n0 = some n) : optH s own x n0 = some n := by
  cases x with
  | none => exact hx
  | some x =>
    simp only [optH] at hx ⊢
    split at hx
    · rename_i h1; rw [opndc_mono h h1]; exact hx
    · cases hx

theorem rdW_mono (h : Sub r s W V) : ∀ {l : List (Nat × Nat)} {cs : List Cell}, rdW r l = some cs → rdW s l = some cs
  | [], _, hx => hx
  | (k, n) :: l, cs, hx => by
    simp only [rdW] at hx ⊢
    split at hx
    case h_2 => cases hx
    rename_i h1 h2
    simp only [box_mono h h1 (by simp), rdW_mono h h2]; exact hx
theorem rdR_mono (h : Sub r s W V) : ∀ {l : List (Nat × Nat)} {cs : List Cell}, rdR r l = some cs → rdR s l = some cs
  | [], _, hx => hx
  | (k, n) :: l, cs, hx => by
    simp only [rdR] at hx ⊢
    split at hx
    case h_2 => cases hx
    rename_i h1 h2
    simp only [rdBox_mono h h1, rdR_mono h h2]; exact hx
theorem allFz_mono (h : Sub r s W V) {ks : List Nat} {b : Bool} (hc : orr (allFz r ks) b = true) : orr (allFz s ks) b = true := by
  have key : ∀ ks : List Nat, allFz r ks = true → allFz s ks = true := by
    intro ks
    induction ks with
    | nil => intro _; rfl
    | cons k t ih =>
      intro h1
      simp only [allFz] at h1 ⊢
      split at h1
      · rename_i h2
        simp only [box_mono h h2 (by simp)]
        exact ih h1
      · cases h1
  rcases orr_true hc with h1 | h1
  · rw [key ks h1]; rfl
  · rw [h1]; cases allFz s ks <;> rfl
theorem allFz_mono1 (h : Sub r s W V) {ks : List Nat} (hc : allFz r ks = true) : allFz s ks = true := by
  have := allFz_mono h (b := false) (ks := ks) (by rw [hc]; rfl)
  rcases orr_true this with x | x
  · exact x
  · cases x
theorem evPtr_mono (h : Sub r s W V) {cp : Cp} {d : Nat} {xs : List SV} {e : Eff} (he : evPtr r cp d xs = some e) : evPtr s cp d xs = some e := by
  unfold evPtr at he ⊢
  split at he
  case h_2 => cases he
  rename_i ks vs h1 h2
  simp only [h1, unvSs_mono h h2]
  split at he
  case h_2 => cases he
  rename_i kc0 vc h3 h4
  have h3 : cnd cp.ro (rdR s (zipN ks cp.sz)) (rdW s (zipN ks cp.sz)) = some kc0 := by
    cases hro : cp.ro with
    | true => rw [hro] at h3; exact rdR_mono h h3
    | false => rw [hro] at h3; exact rdW_mono h h3
  simp only [h3, h4]
  split at he
  case h_2 => cases he
  rename_i h5
  simp only [unvL_mono h h5]
  exact he
theorem evOp_mono (h : Sub r s W V) {e : Eff} (he : evOp C own W r o = some e) : evOp C own V s o = some e := by
  cases hop : o.op with
  | move x =>
    simp only [evOp, hop] at he ⊢
    split at he
    · rename_i h1 h2; simp only [opnd_mono h h1, h2]; exact he
    · cases he
  | assign x =>
    simp only [evOp, hop] at he ⊢
    split at he
    · rename_i h1 h2; simp only [opnd_mono h h1, h2]; exact he
    · cases he
  | pick c x y =>
    simp only [evOp, hop] at he ⊢
    split at he
    case h_2 => cases he
    rename_i cv ct h1 h2
    have hm : mem ct W = mem ct V := by
      cases c with
      | tmp t =>
        simp only [Option.some.injEq] at h2
        subst h2
        simp only [opndc, opnd] at h1
        split at h1
        case h_2 => cases h1
        rename_i s' hs'
        split at hs'
        · rename_i g hg; exact h.mem t g hg
        · cases hs'
      | _ => cases h2
    simp only [opndc_mono h h1, h2]
    rw [← hm]
    split at he
    case h_2 => cases he
    rename_i h3 h4
    simp only [opndc_mono h h3, opndc_mono h h4]
    exact he
  | alloc t =>
    simp only [evOp, hop] at he ⊢
    split at he
    case h_2 => cases he
    rename_i d k h1 h2
    split at he
    case h_2 => cases he
    rename_i h3
    simp only [h1, h2, box_mono h h3 (by simp)]
    exact he
  | box t x =>
    simp only [evOp, hop] at he ⊢
    split at he
    case h_2 => cases he
    rename_i d k h1 h2
    split at he
    case h_2 => cases he
    rename_i h3
    simp only [opnd1_mono h h1, h2, box_mono h h3 (by simp)]
    exact he
  | build t ps =>
    simp only [evOp, hop] at he ⊢
    split at he
    case h_2 => cases he
    rename_i d hd
    try simp only [hd]
    split at he
    · rename_i fs hk
      try simp only [hk]
      split at he
      · rename_i h1; simp only [fillP_mono h h1]; exact he
      · cases he
    · rename_i e' hk
      try simp only [hk]
      split at he
      case h_2 => cases he
      rename_i de hde
      try simp only [hde]
      split at he
      · rename_i h1; simp only [fillP_mono h h1]; exact he
      · cases he
    · cases he
  | buildSlice t n ps =>
    simp only [evOp, hop] at he ⊢
    split at he
    case h_2 => cases he
    rename_i d hd
    try simp only [hd]
    split at he
    case h_2 => cases he
    rename_i el e' hk hty
    try simp only [hk, hty]
    split at he
    case h_2 => cases he
    rename_i h1
    simp only [fillP_mono h h1]
    exact he
  | load t x =>
    simp only [evOp, hop] at he ⊢
    split at he
    · rename_i k off d h1 h2
      simp only [opndc_mono h h1, h2]
      split at he
      case h_2 => cases he
      rename_i h3
      simp only [rdBox_mono h h3]
      exact he
    · rename_i h1 h2
      simp only [opndc_mono h h1, h2]
      exact he
    · rename_i h1 h2
      simp only [opndc_mono h h1, h2]
      split at he
      case h_2 => cases he
      rename_i h3
      simp only [rdBox_mono h h3]
      exact he
    · rename_i h1 h2
      simp only [opndc_mono h h1, h2]
      split at he
      case h_2 => cases he
      rename_i h3
      simp only [box_mono h h3 (by simp)]
      exact he
    · cases he
  | store t x y =>
    simp only [evOp, hop] at he ⊢
    split at he
    case h_4 => cases he
    all_goals
      rename_i h1 h2 h3
      split at h1
      · cases h1
      rename_i hd
      simp only [hd, opndc_mono h h1, h2, opnd1_mono h h3]
      split at he
      case h_2 => cases he
      rename_i h4
      simp only [box_mono h h4 (by simp)]
      exact he
  | nilCheck x =>
    simp only [evOp, hop] at he ⊢
    split at he
    · rename_i h1; simp only [opndc_mono h h1]; exact he
    · rename_i h1; simp only [opndc_mono h h1]; exact he
    · rename_i h1; simp only [opndc_mono h h1]; exact he
    · rename_i h1; simp only [opndc_mono h h1]; exact he
    · rename_i h1; simp only [opndc_mono h h1]; exact he
    · rename_i h1; simp only [opndc_mono h h1]; exact he
    · cases he
  | binOp op t x y yt =>
    simp only [evOp, hop] at he ⊢
    split at he
    · rename_i h1 h2; simp only [opnd1_mono h h1, opnd1_mono h h2]; exact he
    · cases he
  | unOp op t x =>
    simp only [evOp, hop] at he ⊢
    split at he
    · rename_i h1; simp only [opndc_mono h h1]; exact he
    · rename_i h1; simp only [opndc_mono h h1]; exact he
    · cases he
  | convert a b x =>
    simp only [evOp, hop] at he ⊢
    split at he
    · rename_i h1 h2 h3; simp only [h1, h2, opndc_mono h h3]; exact he
    · rename_i h1 h2 h3; simp only [h1, h2, opndc_mono h h3]; exact he
    · rename_i h1 h2 h3
      simp only [h1, h2, opndc_mono h h3]
      split at he
      · rename_i h4 h5; simp only [h4, apNew_mono h h5]; exact he
      · cases he
    · rename_i h1 h2 h3
      simp only [h1, h2, opndc_mono h h3]
      split at he
      case h_2 => cases he
      rename_i h4 h5
      try simp only [h4, h5]
      split at he
      case h_2 => cases he
      rename_i h6 h7 h8 h9
      simp only [h6, box_mono h h7 (by simp), h8, h9]
      exact he
    · cases he
  | fieldAddr t x f =>
    simp only [evOp, hop] at he ⊢
    split at he
    · rename_i h1 h2; simp only [opndc_mono h h1, h2]; exact he
    · rename_i h1 h2; simp only [opndc_mono h h1, h2]; exact he
    · rename_i h1 h2; simp only [opndc_mono h h1, h2]; exact he
    · cases he
  | field t x f =>
    simp only [evOp, hop] at he ⊢
    split at he
    · rename_i h1 h2; simp only [opnd1_mono h h1, h2]; exact he
    · cases he
  | indexAddr t x i =>
    by_cases hxg : ∃ g, x = .global g
    · obtain ⟨g, rfl⟩ := hxg
      simp only [evOp, hop] at he ⊢
      split at he
      · rename_i h1 h2 h3; simp only [h1, h2, opndc_mono h h3]; exact he
      · cases he
    have hxg : ∀ g, x = .global g → False := fun g hg => hxg ⟨g, hg⟩
    simp only [evOp, hop] at he ⊢
    split at he
    · rename_i h1 h2 h3; simp only [h1, opndc_mono h h2, opndc_mono h h3]; exact he
    · rename_i h1 h2 h3; simp only [h1, opndc_mono h h2, opndc_mono h h3]; exact he
    · rename_i h1 h2 h3
      simp only [h1, opndc_mono h h2, opndc_mono h h3]
      split at he
      · rename_i h4 h5 h6; simp only [h4, h5, box_mono h h6 (by simp)]; exact he
      · rename_i h4 h5 h6; simp only [h4, h5, box_mono h h6 (by simp)]; exact he
      · cases he
    · cases he
  | makeSlice t x y =>
    simp only [evOp, hop] at he ⊢
    split at he
    case h_2 => cases he
    rename_i h1 h2 h3 h4
    simp only [h1, h2, opndc_mono h h3, opndc_mono h h4]
    split at he
    case h_2 => cases he
    rename_i h5 h6 h7
    simp only [h5, h6, box_mono h h7 (by simp)]
    exact he
  | slice t x lo hi mx =>
    simp only [evOp, hop] at he ⊢
    split at he
    case h_2 => cases he
    rename_i h1 h2 h3
    simp only [h1, opndc_mono h h2, optI_mono h h3]
    split at he
    · rename_i h4 h4'
      try simp only [h4, h4']
      split at he
      case h_2 => cases he
      rename_i h5; simp only [optH_mono h h5]; exact he
    · rename_i h4 h4'
      try simp only [h4, h4']
      split at he
      · rename_i h5
        simp only [box_mono h h5 (by simp)]
        split at he
        case h_2 => cases he
        rename_i h6; simp only [optH_mono h h6]; exact he
      · rename_i h5
        simp only [box_mono h h5 (by simp)]
        split at he
        case h_2 => cases he
        rename_i h7 h6
        simp only [optH_mono h h6, h7]
        split at he
        case h_2 => cases he
        rename_i h8; simp only [box_mono h h8 (by simp)]; exact he
      · cases he
    · rename_i h4 h4'
      try simp only [h4, h4']
      split at he
      case h_2 => cases he
      rename_i h5 h7; simp only [h5, optH_mono h h7]; exact he
    · cases he
  | index t x i =>
    simp only [evOp, hop] at he ⊢
    split at he
    · rename_i h1 h2 h3; simp only [h1, opnd1_mono h h2, opndc_mono h h3]; exact he
    · rename_i h1 h2 h3; simp only [h1, opnd1_mono h h2, opndc_mono h h3]; exact he
    · cases he
  | makeFunc f first caps =>
    cases f with
    | func g =>
      simp only [evOp, hop] at he ⊢
      split at he
      case h_2 => cases he
      rename_i h1 h2
      simp only [h1, allSV_mono h h2]
      exact he
    | _ => simp only [evOp, hop] at he; cases he
  | extract x i =>
    simp only [evOp, hop] at he ⊢
    split at he
    · rename_i h1; simp only [opnd_mono h h1]; exact he
    · cases he
  | call c =>
    simp only [evOp, hop] at he ⊢
    split at he
    · rename_i f hc
      try simp only [hc]
      split at he
      · rename_i xt hxt
        try simp only [hxt]
        split at he
        case h_2 => cases he
        rename_i x hx
        try simp only [hx]
        split at he
        case h_2 => cases he
        rename_i h1
        simp only [opndc_mono h h1]
        exact he
      rename_i hxt
      try simp only [hxt]
      split at he
      · rename_i cp hpg
        try simp only [hpg]
        split at he
        case h_2 => cases he
        rename_i h1 h2
        simp only [h1, allSV_mono h h2]
        exact evPtr_mono h he
      rename_i hpg
      try simp only [hpg]
      split at he
      case h_2 => cases he
      rename_i ct d h1 h2
      try simp only [h1, h2]
      split at he
      case h_2 => cases he
      rename_i h3
      simp only [allSV_mono h h3]
      split at he
      case h_2 => cases he
      rename_i h4
      simp only [unvSs_mono h h4]
      split at he
      case h_2 => cases he
      rename_i h5
      try simp only [h5]
      split at he
      case h_2 => cases he
      rename_i h6
      try simp only [h6]
      split at he
      · rename_i h7; try simp only [h7]
        split at he
        case h_2 => cases he
        rename_i h8
        obtain ⟨hc, he'⟩ := cnd_some he
        simp only [h8, allFz_mono h hc]
        exact he'
      · rename_i T h7
        try simp only [h7]
        split at he
        case h_2 => cases he
        rename_i h8 h9 h10
        simp only [h8, h9, box_mono h h10 (by simp)]
        obtain ⟨hc, he⟩ := cnd_some he
        rw [hc]
        cases hB : Nat.ble big T with
        | false => rw [hB] at he; exact he
        | true =>
          rw [hB] at he
          obtain ⟨hz, he⟩ := cnd_some he
          rw [allFz_mono1 h hz]
          exact he
    · rename_i hc
      try simp only [hc]
      split at he
      · rename_i h1 h2 h3
        simp only [opndc_mono h h1, h2, allSV_mono h h3]
        split at he
        case h_2 => cases he
        rename_i h4 h5
        simp only [h4, unvSs_mono h h5]
        exact he
      · rename_i h1 h2 h3
        simp only [opndc_mono h h1, h2, allSV_mono h h3]
        split at he
        case h_2 => cases he
        rename_i h4
        try simp only [h4]
        exact evPtr_mono h he
      · cases he
    · rename_i hc
      try simp only [hc]
      split at he
      case h_2 => cases he
      rename_i h1 h2 h3
      try simp only [h1, h2, h3]
      split at he
      case h_2 => cases he
      rename_i h4 h5 h6 h7 h8
      simp only [h4, h5, box_mono h h6 (by simp), opndc_mono h h7, opndc_mono h h8]
      split at he
      case h_3 => cases he
      case h_2 =>
        rename_i h9 h10 h11
        try simp only [h9, h10, h11]
        split at he
        case h_2 => cases he
        rename_i h12 h13 h14
        simp only [h12, apSrc_mono h h13, h14]
        exact he
      rename_i h9 h10 h11
      try simp only [h9, h10, h11]
      split at he
      case h_2 => cases he
      rename_i h12 h13 h14
      simp only [h12, apSrc_mono h h13, apNew_mono h h14]
      exact he
    · rename_i hc
      try simp only [hc]
      split at he
      case h_2 => cases he
      rename_i h1 h2 h3
      try simp only [h1, h2, h3]
      split at he
      case h_2 => cases he
      rename_i h4 h5 h7 h8
      simp only [h4, h5, opndc_mono h h7, opndc_mono h h8]
      split at he
      case h_2 => cases he
      rename_i h9 h10 h11
      try simp only [h9, h10, box_mono h h11 (by simp)]
      split at he
      case h_2 => cases he
      rename_i h12 h14
      simp only [h12, apNew_mono h h14]
      exact he
    · rename_i hc
      try simp only [hc]
      split at he
      case h_2 => cases he
      rename_i x ty tl hx ht
      try simp only [hx, ht]
      split at he
      case h_2 => cases he
      rename_i d hd
      try simp only [hd]
      split at he
      · rename_i hk h1; rw [opndc_mono h h1]; simp only [hk]; exact he
      · rename_i hk h1
        rw [opndc_mono h h1]; simp only [hk]
        split at he
        · rename_i h2; simp only [box_mono h h2 (by simp)]; exact he
        · rename_i h2; simp only [box_mono h h2 (by simp)]; exact he
        · cases he
      · rename_i hk ha hty h1; rw [opndc_mono h h1]; simp only [hk, ha, hty]; exact he
      · cases he
    · rename_i hc
      try simp only [hc]
      split at he
      case h_2 => cases he
      rename_i x y hx
      try simp only [hx]
      split at he
      case h_2 => cases he
      rename_i h1 h2
      simp only [opndc_mono h h1, opndc_mono h h2]; exact he
    · rename_i hc
      try simp only [hc]
      split at he
      · rename_i x y hx
        try simp only [hx]
        split at he
        case h_2 => cases he
        rename_i h1 h2
        simp only [opndc_mono h h1, opndc_mono h h2]; exact he
      · rename_i x y z hx
        try simp only [hx]
        split at he
        case h_2 => cases he
        rename_i h1 h2 h3
        simp only [opndc_mono h h1, opndc_mono h h2, opndc_mono h h3]; exact he
      · cases he
    · cases he
  | _ => simp only [evOp, hop] at he; cases he

theorem ownOf_mono (h : Sub r s W V) {ops : List Oper} {own : List (Nat × Bool)} (he : ownOf ops W r o = some own) : ownOf ops V s o = some own := by
  unfold ownOf at he ⊢
  split at he
  · exact he
  · split at he
    case h_2 => cases he
    rename_i d hd
    split at he
    case h_2 => cases he
    rename_i tg c hs
    simp only [hd, h.slot _ _ hs, ← h.mem _ _ hs]
    exact he
end
end Go.Proofs.Ytghlpolodjlgjaa.Sy
