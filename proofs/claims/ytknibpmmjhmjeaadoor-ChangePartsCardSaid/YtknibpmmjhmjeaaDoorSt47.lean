/- St47: the structs of this chapter, and their cells. -/
import Derived.Test.YtknibpmmjhmjeaaDoorGvG
namespace Go.Proofs.YtknibpmmjhmjeaaDoor
open Go.GV
structure Change where
  Kind : Int
  Id : Int
  Key : Bytes
  Record : Bytes
  Volume : Bytes
deriving DecidableEq, Inhabited
def Change.enc (a : Change) : List Value := [vI a.Kind, vI a.Id, vS a.Key, vS a.Record, vS a.Volume]
theorem Change.enc_len (a : Change) : (Change.enc a).length = 5 := rfl
theorem Change.enc_one (a : Change) : (Change.enc a).all Value.oneCell' = true := rfl
structure Numbered where
  Number : Int
  Change : Change
deriving DecidableEq, Inhabited
def Numbered.enc (a : Numbered) : List Value := [vI a.Number, vI a.Change.Kind, vI a.Change.Id, vS a.Change.Key, vS a.Change.Record, vS a.Change.Volume]
theorem Numbered.enc_len (a : Numbered) : (Numbered.enc a).length = 6 := rfl
theorem Numbered.enc_one (a : Numbered) : (Numbered.enc a).all Value.oneCell' = true := rfl
structure Form where
  word : Bytes
  klo : Int
  khi : Int
  rlo : Int
  rhi : Int
  vol : Bool
  shown : Value
deriving Inhabited
def Form.enc (a : Form) : List Value := [vS a.word, vI a.klo, vI a.khi, vI a.rlo, vI a.rhi, vB a.vol, a.shown]
theorem Form.enc_len (a : Form) : (Form.enc a).length = 7 := rfl
structure Reader where
  left : Bytes
  err : Int
deriving DecidableEq, Inhabited
def Reader.enc (a : Reader) : List Value := [vS a.left, vI a.err]
theorem Reader.enc_len (a : Reader) : (Reader.enc a).length = 2 := rfl
theorem Reader.enc_one (a : Reader) : (Reader.enc a).all Value.oneCell' = true := rfl
end Go.Proofs.YtknibpmmjhmjeaaDoor
