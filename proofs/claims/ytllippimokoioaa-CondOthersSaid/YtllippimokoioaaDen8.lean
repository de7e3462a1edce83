import Derived.Test.YtllippimokoioaaDen7
set_option linter.unusedVariables false
namespace Go.Den

theorem cold_sc (v : Value) (u : Value) : Cold (.sc v) u := by
  intro j
  unfold tokV
  cases j with
  | zero => cases h : (vparts u)[0]? <;> simp [V.parts, V.cells, tok1]
  | succ j => simp [V.parts, V.cells]

section
variable {Z : Nat → Zone} {ι : List Nat} {w : World} {P : Program}

theorem binI_ok (op : BinOp) (t : TypeId) (k : IntKind) (a b : Int) (v : Value) (hs : op ≠ .shl) (hs' : op ≠ .shr) (h : binI op k a b = some v) (w : World) :
    (binOp op t (.int k a) (.int k b)).run P w = .ok v w := by
  cases op <;> simp only [binI] at h <;> first | exact absurd rfl hs | exact absurd rfl hs' | skip
  all_goals first
    | (split at h
       · cases h
       · rename_i hb
         simp at h; subst h
         simp [binOp, Op.intDiv, hb])
    | (simp at h; subst h
       simp [binOp, Op.intArith, Op.intBits, Op.intCmp, bits])

theorem shI_ok (op : BinOp) (t : TypeId) (k k' : IntKind) (a b : Int) (v : Value) (h : shI op k a b = some v) (w : World) :
    (binOp op t (.int k a) (.int k' b)).run P w = .ok v w := by
  unfold shI at h
  split at h
  · cases h
  · rename_i hb
    cases op <;> simp at h
    all_goals
      subst h
      simp [binOp, Op.shift, hb]

theorem binS_ok (op : BinOp) (t : TypeId) (a b : ByteArray) (v : Value) (h : binS op a b = some v) (w : World) :
    (binOp op t (.string a) (.string b)).run P w = .ok v w := by
  cases op <;> simp only [binS] at h <;> try (simp at h; done)
  case add =>
    split at h
    · rename_i hl
      simp at h; subst h
      have : ¬ (((a.size + b.size : Nat) : Int) > IntKind.i64.max) := by
        simp [IntKind.max, IntKind.signed, IntKind.bits]; omega
      simp only [binOp, Op.stringOp, if_neg this]
      rfl
    · cases h
  all_goals
    simp at h; subst h
    simp [binOp, Op.stringOp]

theorem run_eqGuard_plain (op : BinOp) (t : TypeId) (X Y : Operand) (a b : Value) (h : ∀ us vs, a = .agg us → b ≠ .agg vs) (h' : a = .nilIface → b ≠ .nilIface) (w : World) : (eqGuard op t X Y a b).run P w = .ok () w := by
  have h1 : ∀ (u v : Value) (K : Sem Unit) (K2 : Bool → Array Value → Array Value → Sem Unit), (∀ us vs, u = .agg us → v ≠ .agg vs) → (u = .nilIface → v ≠ .nilIface) →
      (match u, v with | .nilIface, .nilIface => K | .agg x, .agg y => K2 true x y | _, _ => pure ()) = (pure () : Sem Unit) := by
    intro u v K K2 h h'
    split
    · exact absurd rfl (h' rfl)
    · exact absurd rfl (h _ _ rfl)
    · rfl
  cases op <;> unfold eqGuard <;> simp only [Bool.not_true, Bool.not_false, Bool.false_eq_true, if_false, if_true] <;> first | rfl | skip
  all_goals
    split
    · rename_i e1 e2; exact absurd e2 (h' e1)
    · rename_i e1 e2; exact absurd e2 (h _ _ e1)
    · rfl

theorem run_eqGuard_agg (op : BinOp) (t : TypeId) (X Y : Operand) (us vs : Array Value) (h : P.eqGuardType P.depth t = false) (w : World) : (eqGuard op t X Y (.agg us) (.agg vs)).run P w = .ok () w := by
  cases op <;> simp [eqGuard, h]

theorem eqIn_nil (d : Nat) (t el : TypeId) (b : Option Addr) (h : P.underlying t = some (.pointer el)) (w : World) : (Op.equalIn (d + 1) t (.pointer none) (.pointer b)).run P w = .ok b.isNone w := by
  simp [Op.equalIn, run_underlying h]
theorem eqIn_nil' (d : Nat) (t el : TypeId) (b : Addr) (h : P.underlying t = some (.pointer el)) (w : World) : (Op.equalIn (d + 1) t (.pointer (some b)) (.pointer none)).run P w = .ok false w := by
  simp [Op.equalIn, run_underlying h]
theorem eq_bool (t : TypeId) (a b : Bool) (h : P.underlying t = some .bool) (w : World) : (Op.equal t (.bool a) (.bool b)).run P w = .ok (a == b) w := run_equalIn_bool' w 9999 t a b h
theorem eq_nil (t el : TypeId) (b : Option Addr) (h : P.underlying t = some (.pointer el)) (w : World) : (Op.equal t (.pointer none) (.pointer b)).run P w = .ok b.isNone w := eqIn_nil 9999 t el b h w
theorem eq_nil' (t el : TypeId) (b : Addr) (h : P.underlying t = some (.pointer el)) (w : World) : (Op.equal t (.pointer (some b)) (.pointer none)).run P w = .ok false w := eqIn_nil' 9999 t el b h w

theorem eqK_ok {C : Ctx} (CO : CtxOK C) {u : TypeId} {ti : TI} (hti : C.ti u = some ti) {x y : V} {a b : Value} {r : Bool} {d : Nat} (hx : srep Z ι w x a) (hy : srep Z ι w y b) (h : eqK ti.kind x y = some r) :
    (Op.equalIn (d + 1) u a b).run C.P w = .ok r w ∧ ti.agg = false := by
  have hk := (CO.ti u _ hti).kind
  unfold eqK at h
  split at h
  · rename_i kk k1 n1 k2 n2 hkk
    rw [hkk] at hk
    simp only [kindOK] at hk
    simp only [srep] at hx hy
    obtain ⟨rfl, _⟩ := hx
    obtain ⟨rfl, _⟩ := hy
    split at h
    · rename_i hkk'
      subst hkk'
      cases h
      exact ⟨run_equalIn_int w d u _ _ _ _ hk, by simp [TI.agg, hkk]⟩
    · cases h
  · rename_i b1 b2 hkk
    rw [hkk] at hk
    simp only [kindOK] at hk
    simp only [srep] at hx hy
    obtain ⟨rfl, _⟩ := hx
    obtain ⟨rfl, _⟩ := hy
    cases h
    exact ⟨run_equalIn_bool' w d u _ _ hk, by simp [TI.agg, hkk]⟩
  · rename_i s1 s2 hkk
    rw [hkk] at hk
    simp only [kindOK] at hk
    simp only [srep] at hx hy
    obtain ⟨rfl, _⟩ := hx
    obtain ⟨rfl, _⟩ := hy
    cases h
    exact ⟨run_equalIn_string w d u _ _ hk, by simp [TI.agg, hkk]⟩
  · cases h

theorem eqF_ok {C : Ctx} (CO : CtxOK C) {as bs : List V} {us vs : List Value} (hx : srepL Z ι w as us) (hy : srepL Z ι w bs vs) {d : Nat} : ∀ (fs : List Field) (r : Bool), (fs.all fun f => f.name != "_") = true → eqF C as bs (fs.map fun f => (f.type, f.offset)) = some r →
    (Op.eqFields (d + 1) us.toArray vs.toArray fs).run C.P w = .ok r w
  | [], r, _, h => by simp only [List.map_nil, eqF] at h; cases h; simp [Op.eqFields]
  | f :: fs, r, hn, h => by
    simp only [List.all_cons, Bool.and_eq_true] at hn
    simp only [List.map_cons, eqF] at h
    split at h
    · rename_i ti x y hti ha hb
      unfold bind2 at h
      split at h
      · rename_i r1 r2 h1 h2
        cases h
        have one : ∀ (cs : List V) (ws : List Value) (c : V), srepL Z ι w cs ws → cs[f.offset]? = some c → ti.agg = false → ∃ u, (part f.type ws.toArray f.offset).run C.P w = .ok u w ∧ srep Z ι w c u := by
          intro cs ws c hs hc hagg
          have hsz : ti.size = 1 := by
            obtain ⟨i, z, _, _, _, _, q1, _, q3⟩ := (CO.ti _ _ hti).info
            rw [hagg] at q3
            simp only [Bool.false_eq_true, if_false] at q3
            have := srepL_length (q1 (fun _ => .free) [] default)
            rw [q3] at this
            simpa [TI.size] using this.symm
          have hlt := (List.getElem?_eq_some_iff.1 hc).1
          refine part_ok (CO.ti _ _ hti) (ds := [c]) hs ?_ (by simp [ofCells, hagg])
          unfold sub
          rw [hsz, if_pos (by omega)]
          simp only [Option.some.injEq]
          rw [List.drop_eq_getElem_cons hlt]
          have := (List.getElem?_eq_some_iff.1 hc).2
          simp [this]
        have hagg : ti.agg = false := by
          unfold eqK at h1
          cases hkk : ti.kind <;> simp only [hkk] at h1 <;> first | (cases h1; done) | simp [TI.agg, hkk]
        obtain ⟨u, hu, su⟩ := one as us x hx ha hagg
        obtain ⟨v, hv, sv⟩ := one bs vs y hy hb hagg
        have he := (eqK_ok (d := d) CO hti su sv h1).1
        have hne : f.name ≠ "_" := by simpa using hn.1
        simp only [Op.eqFields, if_pos hne, Sem.run_bind, hu, hv, he, Result.andThen_ok]
        cases r1 with
        | false => simp
        | true =>
          simp only [Bool.not_true, Bool.false_eq_true, if_false, Bool.true_and]
          exact eqF_ok CO hx hy fs r2 hn.2 h2
      · cases h
    · cases h

theorem eqStruct_ok {C : Ctx} (CO : CtxOK C) {t : TypeId} {z : List V} {by_ : Nat} {fs : List (TypeId × Nat)} (hti : C.ti t = some ⟨z, by_, .struct fs⟩) (hB : eqB C.P t = true) {as bs : List V} {us vs : List Value} {r : Bool} (hx : srepL Z ι w as us) (hy : srepL Z ι w bs vs) (h : eqF C as bs fs = some r) :
    (Op.equal t (.agg us.toArray) (.agg vs.toArray)).run C.P w = .ok r w ∧ C.P.eqGuardType C.P.depth t = false := by
  have hk := (CO.ti t _ hti).kind
  simp only [kindOK] at hk
  obtain ⟨fields, hf, rfl⟩ := hk
  have hfo : C.P.fieldsOf t = fields := by simp [Program.fieldsOf, hf]
  simp only [eqB, hfo, Bool.and_eq_true, Bool.not_eq_true'] at hB
  obtain ⟨⟨h1, h2⟩, h3⟩ := hB
  refine ⟨?_, h3⟩
  have := run_equalIn_struct (P := C.P) w 9999 t us.toArray vs.toArray (by rw [hfo]; exact hf) h2
  rw [hfo] at this
  unfold Op.equal
  rw [show Op.maxDepth = 9999 + 1 from rfl, this]
  exact eqF_ok (d := 9998) CO hx hy fields.toList r (by simpa using h1) h

theorem binV_ok {C : Ctx} (CO : CtxOK C) {x y : V} {a b : Value} (hx : srep Z ι w x a) (hy : srep Z ι w y b) {op : BinOp} {t : TypeId} {v : V} (h : binV C t op x y = some v) (X Y : Operand) :
    ∃ u, (do eqGuard op t X Y a b; binOp op t a b : Sem Value).run C.P w = .ok u w ∧ srep Z ι w v u ∧ Cold v u := by
  have sc : ∀ (r : Value), flat r = true → srep Z ι w (.sc r) r ∧ Cold (.sc r) r := fun r hr => ⟨by simp [srep, hr], cold_sc r r⟩
  unfold binV at h
  split at h
  · rename_i k n k' m
    simp only [srep] at hx hy
    obtain ⟨rfl, _⟩ := hx
    obtain ⟨rfl, _⟩ := hy
    have hg := run_eqGuard_plain (P := C.P) op t X Y (.int k n) (.int k' m) (fun _ _ h => by cases h) (fun h => by cases h) w
    have fin : ∀ r, (binOp op t (.int k n) (.int k' m)).run C.P w = .ok r w → flat r = true → V.sc r = v →
        ∃ u, (do eqGuard op t X Y (.int k n) (.int k' m); binOp op t (.int k n) (.int k' m) : Sem Value).run C.P w = .ok u w ∧ srep Z ι w v u ∧ Cold v u := by
      intro r hr hf hv
      subst hv
      exact ⟨r, by simp only [Sem.run_bind, hg, Result.andThen_ok, hr], sc r hf⟩
    split at h
    · obtain ⟨r, hr, rfl⟩ := Option.map_eq_some_iff.1 h
      refine fin r (shI_ok _ t k k' n m r hr w) ?_ rfl
      unfold shI at hr
      split at hr
      · cases hr
      · simp at hr; subst hr; rfl
    · obtain ⟨r, hr, rfl⟩ := Option.map_eq_some_iff.1 h
      refine fin r (shI_ok _ t k k' n m r hr w) ?_ rfl
      unfold shI at hr
      split at hr
      · cases hr
      · simp at hr; subst hr; rfl
    · rename_i h1 h2
      split at h
      · rename_i hk
        subst hk
        obtain ⟨r, hr, rfl⟩ := Option.map_eq_some_iff.1 h
        refine fin r (binI_ok op t k n m r (fun e => h1 e) (fun e => h2 e) hr w) ?_ rfl
        unfold binI at hr
        split at hr <;> (try split at hr) <;> first | (cases hr; done) | (simp at hr; subst hr; rfl)
      · cases h
  · rename_i s s'
    simp only [srep] at hx hy
    obtain ⟨rfl, _⟩ := hx
    obtain ⟨rfl, _⟩ := hy
    obtain ⟨r, hr, rfl⟩ := Option.map_eq_some_iff.1 h
    have hg := run_eqGuard_plain (P := C.P) op t X Y (.string s) (.string s') (fun _ _ h => by cases h) (fun h => by cases h) w
    refine ⟨r, by simp only [Sem.run_bind, hg, Result.andThen_ok, binS_ok op t s s' r hr w], sc r ?_⟩
    unfold binS at hr
    split at hr <;> (try split at hr) <;> first | (cases hr; done) | (simp at hr; subst hr; rfl)
  · -- == and !=
    have key : ∀ r, eqV C t x y = some r → (∀ op', (eqGuard op' t X Y a b).run C.P w = .ok () w) ∧ (Op.equal t a b).run C.P w = .ok r w ∧ (∀ op', op' = .eql ∨ op' = .neq → binOp op' t a b = (match op' with | .eql => (do pure (.bool (← Op.equal t a b)) : Sem Value) | _ => (do pure (.bool (!(← Op.equal t a b))) : Sem Value))) := by
      intro r hr
      unfold eqV at hr
      split at hr
      · rename_i zz bb hti
        have hk := (CO.ti t _ hti).kind
        simp only [kindOK] at hk
        split at hr
        · simp only [srep] at hx hy
          obtain ⟨rfl, _⟩ := hx
          obtain ⟨rfl, _⟩ := hy
          simp at hr
          subst hr
          refine ⟨fun op' => run_eqGuard_plain _ _ _ _ _ _ (fun _ _ h => by cases h) (fun h => by cases h) _, ?_, fun op' ho => by rcases ho with rfl | rfl <;> rfl⟩
          exact eq_bool t _ _ hk w
        · cases hr
      · rename_i zz bb el hti
        have hk := (CO.ti t _ hti).kind
        simp only [kindOK] at hk
        split at hr
        · simp only [srep] at hx hy
          obtain ⟨rfl, _⟩ := hx
          obtain ⟨rfl, _⟩ := hy
          simp at hr
          subst hr
          refine ⟨fun op' => run_eqGuard_plain _ _ _ _ _ _ (fun _ _ h => by cases h) (fun h => by cases h) _, ?_, fun op' ho => by rcases ho with rfl | rfl <;> rfl⟩
          exact eq_nil t el none hk w
        · simp only [srep] at hx hy
          obtain ⟨β, _, rfl⟩ := hx
          obtain ⟨rfl, _⟩ := hy
          simp at hr
          subst hr
          refine ⟨fun op' => run_eqGuard_plain _ _ _ _ _ _ (fun _ _ h => by cases h) (fun h => by cases h) _, ?_, fun op' ho => by rcases ho with rfl | rfl <;> rfl⟩
          exact eq_nil' t el _ hk w
        · simp only [srep] at hx hy
          obtain ⟨rfl, _⟩ := hx
          obtain ⟨β, _, rfl⟩ := hy
          simp at hr
          subst hr
          refine ⟨fun op' => run_eqGuard_plain _ _ _ _ _ _ (fun _ _ h => by cases h) (fun h => by cases h) _, ?_, fun op' ho => by rcases ho with rfl | rfl <;> rfl⟩
          exact eq_nil t el _ hk w
        · cases hr
      · rename_i zz bb fs hti
        split at hr
        · split at hr
          · rename_i heq
            simp only [srep] at hx hy
            obtain ⟨us, rfl, hx⟩ := hx
            obtain ⟨vs, rfl, hy⟩ := hy
            obtain ⟨h1, h2⟩ := eqStruct_ok CO hti (CO.eqT t heq) hx hy hr
            exact ⟨fun op' => run_eqGuard_agg _ _ _ _ _ _ h2 _, h1, fun op' ho => by rcases ho with rfl | rfl <;> rfl⟩
          · cases hr
        · cases hr
      · cases hr
    split at h
    · obtain ⟨r, hr, rfl⟩ := Option.map_eq_some_iff.1 h
      obtain ⟨h1, h2, h3⟩ := key r hr
      exact ⟨.bool r, by rw [h3 _ (.inl rfl)]; simp [h1, h2], sc _ rfl⟩
    · obtain ⟨r, hr, rfl⟩ := Option.map_eq_some_iff.1 h
      obtain ⟨h1, h2, h3⟩ := key r hr
      exact ⟨.bool (!r), by rw [h3 _ (.inr rfl)]; simp [h1, h2], sc _ rfl⟩
    · cases h

theorem unV_ok {x v : V} {a : Value} (hx : srep Z ι w x a) {op : UnOp} (h : unV op x = some v) : ∃ u, (Op.unary op a).run P w = .ok u w ∧ srep Z ι w v u ∧ Cold v u := by
  have sc : ∀ (r : Value), flat r = true → srep Z ι w (.sc r) r ∧ Cold (.sc r) r := fun r hr => ⟨by simp [srep, hr], cold_sc r r⟩
  unfold unV at h
  split at h
  all_goals first
    | (cases h; done)
    | (simp only [srep] at hx
       obtain ⟨rfl, _⟩ := hx
       simp at h; subst h
       refine ⟨_, ?_, sc _ rfl⟩
       simp [Op.unary, Op.intArith, intBits_xor])

theorem convV_ok {C : Ctx} (CO : CtxOK C) {s d : TypeId} {x v : V} {a : Value} (hx : srep Z ι w x a) (h : convV C s d x = some v) : ∃ u, (convert s d a).run C.P w = .ok u w ∧ srep Z ι w v u ∧ Cold v u := by
  have sc : ∀ (r : Value), flat r = true → srep Z ι w (.sc r) r ∧ Cold (.sc r) r := fun r hr => ⟨by simp [srep, hr], cold_sc r r⟩
  unfold convV at h
  split at h
  · rename_i ti zz bb k k' n h1 h2
    obtain ⟨ds, hds, _⟩ := (CO.ti s _ h1).und
    have hk := (CO.ti d _ h2).kind
    simp only [kindOK] at hk
    simp only [srep] at hx
    obtain ⟨rfl, _⟩ := hx
    simp at h; subst h
    refine ⟨_, ?_, sc _ rfl⟩
    simp [convert, run_underlying hds, run_underlying hk, Conv.intToInt]
  · rename_i ti zz bb n h1 h2
    obtain ⟨ds, hds, _⟩ := (CO.ti s _ h1).und
    have hk := (CO.ti d _ h2).kind
    simp only [kindOK] at hk
    simp only [srep] at hx
    obtain ⟨rfl, _⟩ := hx
    simp at h; subst h
    refine ⟨_, ?_, sc _ rfl⟩
    simp [convert, run_underlying hds, run_underlying hk]
  · cases h

end
end Go.Den
