/-
  A law's argument that is a vector or a job.
-/
import Derived.Test.YtliopiphobopjaaGreatKGlB
set_option maxRecDepth 100000
set_option maxHeartbeats 16000000
namespace Go.Proofs.YtliopiphobopjaaGreat
open Go Go.RowKit

theorem vec_of {W : World} {ds : List D} (h : TyD ⟨Tryz.prog, W, fun _ => true, NoZ, NoB, tt⟩ 40 28 ds) : ∃ v : V3, ds = [.n .i64 v.a, .n .i64 v.b, .n .i64 v.c] := by
 obtain ⟨_, _, rfl, ⟨x, rfl, _⟩, _, _, rfl, ⟨y, rfl, _⟩, _, _, rfl, ⟨z, rfl, _⟩, rfl⟩ := h
 exact ⟨⟨x, y, z⟩, rfl⟩
theorem job_of {W : World} {ds : List D} (h : TyD ⟨Tryz.prog, W, fun _ => true, NoZ, NoB, tt⟩ 40 91 ds) : ∃ j : Job, ds = jobD j := by
 obtain ⟨_, _, rfl, ⟨i, rfl, _⟩, _, _, rfl, ⟨pr, rfl, _⟩, _, _, rfl, ⟨no, rfl, _⟩, _, _, rfl, ⟨_, _, rfl, ⟨x, rfl, _⟩, _, _, rfl, ⟨y, rfl, _⟩, _, _, rfl, ⟨z, rfl, _⟩, rfl⟩, _, _, rfl, ⟨_, _, rfl, ⟨x', rfl, _⟩, _, _, rfl, ⟨y', rfl, _⟩, _, _, rfl, ⟨z', rfl, _⟩, rfl⟩, _, _, rfl, ⟨wa, rfl, _⟩, _, _, rfl, ⟨le, rfl, _⟩, rfl⟩ := h
 exact ⟨⟨i, pr, no, ⟨x, y, z⟩, ⟨x', y', z'⟩, wa, le⟩, rfl⟩
end Go.Proofs.YtliopiphobopjaaGreat
