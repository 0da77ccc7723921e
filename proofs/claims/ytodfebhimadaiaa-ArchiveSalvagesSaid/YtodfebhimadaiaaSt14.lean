/- St14: the structs of this chapter, and their cells. -/
import Derived.Test.YtodfebhimadaiaaGvG
namespace Go.Proofs.Ytodfebhimadaiaa
open Go.GV
structure Pair where
  key : Bytes
  record : Bytes
deriving DecidableEq, Inhabited
def Pair.enc (a : Pair) : List Value := [vS a.key, vS a.record]
theorem Pair.enc_len (a : Pair) : (Pair.enc a).length = 2 := rfl
theorem Pair.enc_one (a : Pair) : (Pair.enc a).all Value.oneCell' = true := rfl
structure Frame where
  first : Bool
  last : Bool
  data : Bytes
deriving DecidableEq, Inhabited
def Frame.enc (a : Frame) : List Value := [vB a.first, vB a.last, vS a.data]
theorem Frame.enc_len (a : Frame) : (Frame.enc a).length = 3 := rfl
theorem Frame.enc_one (a : Frame) : (Frame.enc a).all Value.oneCell' = true := rfl
structure Piece where
  ok : Bool
  first : Bool
  last : Bool
  data : Bytes
deriving DecidableEq, Inhabited
def Piece.enc (a : Piece) : List Value := [vB a.ok, vB a.first, vB a.last, vS a.data]
theorem Piece.enc_len (a : Piece) : (Piece.enc a).length = 4 := rfl
theorem Piece.enc_one (a : Piece) : (Piece.enc a).all Value.oneCell' = true := rfl
structure Reader where
  left : Bytes
  err : Int
deriving DecidableEq, Inhabited
def Reader.enc (a : Reader) : List Value := [vS a.left, vI a.err]
theorem Reader.enc_len (a : Reader) : (Reader.enc a).length = 2 := rfl
theorem Reader.enc_one (a : Reader) : (Reader.enc a).all Value.oneCell' = true := rfl
structure Harm where
  Frame : UInt16
  At : UInt16
  Mask : UInt32
  Kind : UInt8
deriving DecidableEq, Inhabited
def Harm.enc (a : Harm) : List Value := [vU16 a.Frame, vU16 a.At, vU32 a.Mask, vU8 a.Kind]
theorem Harm.enc_len (a : Harm) : (Harm.enc a).length = 4 := rfl
theorem Harm.enc_one (a : Harm) : (Harm.enc a).all Value.oneCell' = true := rfl
structure DataSet where
  Id : Int
  Org : Int
  Format : Int
  Length : Int
  Block : Int
  KeyAt : Int
  KeyLength : Int
  Interval : Int
  Area : Int
  FreeInterval : Int
  FreeArea : Int
  Base : Int
  AltAt : Int
  AltLength : Int
  Unique : Bool
  Class : Int
  Volume : Bytes
  Owner : Bytes
  Created : Int
  Expires : Int
  Archived : Bool
deriving DecidableEq, Inhabited
def DataSet.enc (a : DataSet) : List Value := [vI a.Id, vI a.Org, vI a.Format, vI a.Length, vI a.Block, vI a.KeyAt, vI a.KeyLength, vI a.Interval, vI a.Area, vI a.FreeInterval, vI a.FreeArea, vI a.Base, vI a.AltAt, vI a.AltLength, vB a.Unique, vI a.Class, vS a.Volume, vS a.Owner, vI a.Created, vI a.Expires, vB a.Archived]
theorem DataSet.enc_len (a : DataSet) : (DataSet.enc a).length = 21 := rfl
theorem DataSet.enc_one (a : DataSet) : (DataSet.enc a).all Value.oneCell' = true := rfl
end Go.Proofs.Ytodfebhimadaiaa
