/-
  A field of a value, by the evaluator.
-/
import Derived.Test.YthmajaeekkbnnaaEnB
namespace Go.Proofs.Ythmajaeekkbnnaa
open Go Go.RowKit

def fieldVA (X : Cx) (o : Oper) (σ : AS) : Option AS :=
  match o.dst with
  | some t => match o.op with
    | .field T x f => match X.tt T with
      | some ti => match fieldOff ti.desc f with
        | some (off, ft) => match X.tt ft with
          | some tf => match σ.ev x with
            | .agg xs => bif isAggD tf.desc then forceL ((xs.drop off).take tf.size) (fun ys => vput σ t (.agg ys)) else (match xs[off]? with
              | some v => vput σ t v
              | none => none)
            | _ => none
          | none => none
        | none => none
      | none => none
    | _ => none
  | none => none
theorem st_fieldA {X : Cx} {σ σ' : AS} {o : Oper} {K : AS → Prop} (h : fieldVA X o σ = some σ') (hK : K σ') : QOk X o σ K := by
  unfold fieldVA at h
  split at h
  · rename_i t hd
    split at h
    · rename_i T x f ho
      split at h
      · rename_i ti _
        split at h
        · rename_i off ft hf
          split at h
          · rename_i tf _
            split at h
            · rename_i xs hx
              cases ha : isAggD tf.desc with
              | true =>
                rw [ha, cond_true, forceL_eq] at h
                obtain ⟨rfl, ht⟩ := vput_spec h
                exact st_fieldvN (ti := ti) (tf := tf) ho hd hf ha hx rfl ht hK
              | false =>
                rw [ha, cond_false] at h
                split at h
                · rename_i v hv
                  obtain ⟨rfl, ht⟩ := vput_spec h
                  exact st_fieldv1 (ti := ti) (tf := tf) ho hd hf ha hx hv ht hK
                · cases h
            · cases h
          · cases h
        · cases h
      · cases h
    · cases h
  · cases h
end Go.Proofs.Ythmajaeekkbnnaa
