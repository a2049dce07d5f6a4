/- The rows of image laws, together. -/
import Derived.Test.YtflojfcioojgbaaGreatDoorYAl15
namespace Go.Proofs.YtflojfcioojgbaaGreatDoor
theorem image_all : Rows.ImageOnlyCardSaid ∧ Rows.ImageSameCardSaid ∧ Rows.ImageBackCardSaid := ⟨imageOnly_card, imageSame_card, imageBack_card⟩
end Go.Proofs.YtflojfcioojgbaaGreatDoor
