/- St26: the structs of this chapter, and their cells. -/
import Derived.Test.YtmbinhhlfbgiaaaGvG
namespace Go.Proofs.Ytmbinhhlfbgiaaa
open Go.GV
structure Pair where
  key : Bytes
  record : Bytes
deriving DecidableEq, Inhabited
def Pair.enc (a : Pair) : List Value := [vS a.key, vS a.record]
theorem Pair.enc_len (a : Pair) : (Pair.enc a).length = 2 := rfl
theorem Pair.enc_one (a : Pair) : (Pair.enc a).all Value.oneCell' = true := rfl
structure Range where
  Low : Bytes
  High : Bytes
  End : Bool
deriving DecidableEq, Inhabited
def Range.enc (a : Range) : List Value := [vS a.Low, vS a.High, vB a.End]
theorem Range.enc_len (a : Range) : (Range.enc a).length = 3 := rfl
theorem Range.enc_one (a : Range) : (Range.enc a).all Value.oneCell' = true := rfl
structure DataSet where
  Id : Int
  Org : Int
  Format : Int
  Length : Int
  Block : Int
  KeyAt : Int
  KeyLength : Int
  Interval : Int
  Area : Int
  FreeInterval : Int
  FreeArea : Int
  Base : Int
  AltAt : Int
  AltLength : Int
  Unique : Bool
  Class : Int
  Volume : Bytes
  Owner : Bytes
  Created : Int
  Expires : Int
  Archived : Bool
deriving DecidableEq, Inhabited
def DataSet.enc (a : DataSet) : List Value := [vI a.Id, vI a.Org, vI a.Format, vI a.Length, vI a.Block, vI a.KeyAt, vI a.KeyLength, vI a.Interval, vI a.Area, vI a.FreeInterval, vI a.FreeArea, vI a.Base, vI a.AltAt, vI a.AltLength, vB a.Unique, vI a.Class, vS a.Volume, vS a.Owner, vI a.Created, vI a.Expires, vB a.Archived]
theorem DataSet.enc_len (a : DataSet) : (DataSet.enc a).length = 21 := rfl
theorem DataSet.enc_one (a : DataSet) : (DataSet.enc a).all Value.oneCell' = true := rfl
structure Change where
  Kind : Int
  Id : Int
  Key : Bytes
  Record : Bytes
  Volume : Bytes
deriving DecidableEq, Inhabited
def Change.enc (a : Change) : List Value := [vI a.Kind, vI a.Id, vS a.Key, vS a.Record, vS a.Volume]
theorem Change.enc_len (a : Change) : (Change.enc a).length = 5 := rfl
theorem Change.enc_one (a : Change) : (Change.enc a).all Value.oneCell' = true := rfl
structure Data where
  Id : Int
  Pairs : List Pair
  PairsA : Option Addr
  PairsC : Nat
deriving Inhabited
def Data.enc (a : Data) : List Value := [vI a.Id, Value.slice a.PairsA a.Pairs.length a.PairsC]
theorem Data.enc_len (a : Data) : (Data.enc a).length = 2 := rfl
theorem Data.enc_one (a : Data) : (Data.enc a).all Value.oneCell' = true := rfl
structure side where
  key : Bytes
  has : Bool
deriving DecidableEq, Inhabited
def side.enc (a : side) : List Value := [vS a.key, vB a.has]
theorem side.enc_len (a : side) : (side.enc a).length = 2 := rfl
theorem side.enc_one (a : side) : (side.enc a).all Value.oneCell' = true := rfl
end Go.Proofs.Ytmbinhhlfbgiaaa
