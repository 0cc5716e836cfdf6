import Derived.Test.YtboglmbblmakjaaGreatDoorEH
import Derived.Test.YtboglmbblmakjaaGreatDoorGJ
import Derived.Test.YtboglmbblmakjaaGreatDoorP1
import Derived.Test.YtboglmbblmakjaaGreatDoorProg
set_option linter.unusedVariables false
set_option linter.unusedSimpArgs false
set_option maxRecDepth 100000
set_option maxHeartbeats 1600000
namespace Go.Proofs.YtboglmbblmakjaaGreatDoor
open Go.RowKit
theorem aEp {j:Nat} {e:UInt8} (h:wR[j]?=some e):([.int .u8 0,.int .u8 1,.int .u8 28,.int .u8 2,.int .u8 29,.int .u8 14,.int .u8 24,.int .u8 3,.int .u8 30,.int .u8 22,.int .u8 20,.int .u8 15,.int .u8 25,.int .u8 17,.int .u8 4,.int .u8 8,.int .u8 31,.int .u8 27,.int .u8 13,.int .u8 23,.int .u8 21,.int .u8 19,.int .u8 16,.int .u8 7,.int .u8 26,.int .u8 12,.int .u8 18,.int .u8 6,.int .u8 11,.int .u8 5,.int .u8 10,.int .u8 9]:List C)[j]?=some (.int .u8 (e.toNat:Int)):=by
 have h1:([.int .u8 0,.int .u8 1,.int .u8 28,.int .u8 2,.int .u8 29,.int .u8 14,.int .u8 24,.int .u8 3,.int .u8 30,.int .u8 22,.int .u8 20,.int .u8 15,.int .u8 25,.int .u8 17,.int .u8 4,.int .u8 8,.int .u8 31,.int .u8 27,.int .u8 13,.int .u8 23,.int .u8 21,.int .u8 19,.int .u8 16,.int .u8 7,.int .u8 26,.int .u8 12,.int .u8 18,.int .u8 6,.int .u8 11,.int .u8 5,.int .u8 10,.int .u8 9]:List C)=wR.map fun x=>C.int .u8 (x.toNat:Int):=rfl
 rw [h1,aKm,h]
 rfl
theorem Vx {j:Nat} {e:UInt8} (h:Rn[j]?=some e):([.int .u8 0,.int .u8 0,.int .u8 0,.int .u8 0,.int .u8 0,.int .u8 0,.int .u8 0,.int .u8 0,.int .u8 0,.int .u8 1,.int .u8 1,.int .u8 1,.int .u8 1,.int .u8 1,.int .u8 0,.int .u8 0,.int .u8 0,.int .u8 0,.int .u8 0,.int .u8 0,.int .u8 0,.int .u8 0,.int .u8 0,.int .u8 0,.int .u8 0,.int .u8 0,.int .u8 0,.int .u8 0,.int .u8 0,.int .u8 0,.int .u8 0,.int .u8 0,.int .u8 1,.int .u8 0,.int .u8 0,.int .u8 0,.int .u8 0,.int .u8 0,.int .u8 0,.int .u8 0,.int .u8 0,.int .u8 0,.int .u8 0,.int .u8 0,.int .u8 0,.int .u8 0,.int .u8 0,.int .u8 0,.int .u8 0,.int .u8 0,.int .u8 0,.int .u8 0,.int .u8 0,.int .u8 0,.int .u8 0,.int .u8 0,.int .u8 0,.int .u8 0,.int .u8 0,.int .u8 0,.int .u8 0,.int .u8 0,.int .u8 0,.int .u8 0,.int .u8 0,.int .u8 0,.int .u8 0,.int .u8 0,.int .u8 0,.int .u8 0,.int .u8 0,.int .u8 0,.int .u8 0,.int .u8 0,.int .u8 0,.int .u8 0,.int .u8 0,.int .u8 0,.int .u8 0,.int .u8 0,.int .u8 0,.int .u8 0,.int .u8 0,.int .u8 0,.int .u8 0,.int .u8 0,.int .u8 0,.int .u8 0,.int .u8 0,.int .u8 0,.int .u8 0,.int .u8 0,.int .u8 0,.int .u8 0,.int .u8 0,.int .u8 0,.int .u8 0,.int .u8 0,.int .u8 0,.int .u8 0,.int .u8 0,.int .u8 0,.int .u8 0,.int .u8 0,.int .u8 0,.int .u8 0,.int .u8 0,.int .u8 0,.int .u8 0,.int .u8 0,.int .u8 0,.int .u8 0,.int .u8 0,.int .u8 0,.int .u8 0,.int .u8 0,.int .u8 0,.int .u8 0,.int .u8 0,.int .u8 0,.int .u8 0,.int .u8 0,.int .u8 0,.int .u8 0,.int .u8 0,.int .u8 0,.int .u8 0,.int .u8 0,.int .u8 0,.int .u8 0,.int .u8 0,.int .u8 0,.int .u8 0,.int .u8 0,.int .u8 0,.int .u8 0,.int .u8 0,.int .u8 0,.int .u8 0,.int .u8 0,.int .u8 0,.int .u8 0,.int .u8 0,.int .u8 0,.int .u8 0,.int .u8 0,.int .u8 0,.int .u8 0,.int .u8 0,.int .u8 0,.int .u8 0,.int .u8 0,.int .u8 0,.int .u8 0,.int .u8 0,.int .u8 0,.int .u8 0,.int .u8 0,.int .u8 0,.int .u8 0,.int .u8 0,.int .u8 0,.int .u8 0,.int .u8 0,.int .u8 0,.int .u8 0,.int .u8 0,.int .u8 0,.int .u8 0,.int .u8 0,.int .u8 0,.int .u8 0,.int .u8 0,.int .u8 0,.int .u8 0,.int .u8 0,.int .u8 0,.int .u8 0,.int .u8 0,.int .u8 0,.int .u8 0,.int .u8 0,.int .u8 0,.int .u8 0,.int .u8 0,.int .u8 0,.int .u8 0,.int .u8 0,.int .u8 0,.int .u8 0,.int .u8 0,.int .u8 0,.int .u8 0,.int .u8 0,.int .u8 0,.int .u8 0,.int .u8 0,.int .u8 0,.int .u8 0,.int .u8 0,.int .u8 0,.int .u8 0,.int .u8 0,.int .u8 0,.int .u8 0,.int .u8 0,.int .u8 0,.int .u8 0,.int .u8 0,.int .u8 0,.int .u8 0,.int .u8 0,.int .u8 0,.int .u8 0,.int .u8 0,.int .u8 0,.int .u8 0,.int .u8 0,.int .u8 0,.int .u8 0,.int .u8 0,.int .u8 0,.int .u8 0,.int .u8 0,.int .u8 0,.int .u8 0,.int .u8 0,.int .u8 0,.int .u8 0,.int .u8 0,.int .u8 0,.int .u8 0,.int .u8 0,.int .u8 0,.int .u8 0,.int .u8 0,.int .u8 0,.int .u8 0,.int .u8 0,.int .u8 0,.int .u8 0,.int .u8 0,.int .u8 0,.int .u8 0,.int .u8 0,.int .u8 0,.int .u8 0,.int .u8 0,.int .u8 0,.int .u8 0,.int .u8 0,.int .u8 0,.int .u8 0,.int .u8 0,.int .u8 0,.int .u8 0]:List C)[j]?=some (.int .u8 (e.toNat:Int)):=by
 have h1:([.int .u8 0,.int .u8 0,.int .u8 0,.int .u8 0,.int .u8 0,.int .u8 0,.int .u8 0,.int .u8 0,.int .u8 0,.int .u8 1,.int .u8 1,.int .u8 1,.int .u8 1,.int .u8 1,.int .u8 0,.int .u8 0,.int .u8 0,.int .u8 0,.int .u8 0,.int .u8 0,.int .u8 0,.int .u8 0,.int .u8 0,.int .u8 0,.int .u8 0,.int .u8 0,.int .u8 0,.int .u8 0,.int .u8 0,.int .u8 0,.int .u8 0,.int .u8 0,.int .u8 1,.int .u8 0,.int .u8 0,.int .u8 0,.int .u8 0,.int .u8 0,.int .u8 0,.int .u8 0,.int .u8 0,.int .u8 0,.int .u8 0,.int .u8 0,.int .u8 0,.int .u8 0,.int .u8 0,.int .u8 0,.int .u8 0,.int .u8 0,.int .u8 0,.int .u8 0,.int .u8 0,.int .u8 0,.int .u8 0,.int .u8 0,.int .u8 0,.int .u8 0,.int .u8 0,.int .u8 0,.int .u8 0,.int .u8 0,.int .u8 0,.int .u8 0,.int .u8 0,.int .u8 0,.int .u8 0,.int .u8 0,.int .u8 0,.int .u8 0,.int .u8 0,.int .u8 0,.int .u8 0,.int .u8 0,.int .u8 0,.int .u8 0,.int .u8 0,.int .u8 0,.int .u8 0,.int .u8 0,.int .u8 0,.int .u8 0,.int .u8 0,.int .u8 0,.int .u8 0,.int .u8 0,.int .u8 0,.int .u8 0,.int .u8 0,.int .u8 0,.int .u8 0,.int .u8 0,.int .u8 0,.int .u8 0,.int .u8 0,.int .u8 0,.int .u8 0,.int .u8 0,.int .u8 0,.int .u8 0,.int .u8 0,.int .u8 0,.int .u8 0,.int .u8 0,.int .u8 0,.int .u8 0,.int .u8 0,.int .u8 0,.int .u8 0,.int .u8 0,.int .u8 0,.int .u8 0,.int .u8 0,.int .u8 0,.int .u8 0,.int .u8 0,.int .u8 0,.int .u8 0,.int .u8 0,.int .u8 0,.int .u8 0,.int .u8 0,.int .u8 0,.int .u8 0,.int .u8 0,.int .u8 0,.int .u8 0,.int .u8 0,.int .u8 0,.int .u8 0,.int .u8 0,.int .u8 0,.int .u8 0,.int .u8 0,.int .u8 0,.int .u8 0,.int .u8 0,.int .u8 0,.int .u8 0,.int .u8 0,.int .u8 0,.int .u8 0,.int .u8 0,.int .u8 0,.int .u8 0,.int .u8 0,.int .u8 0,.int .u8 0,.int .u8 0,.int .u8 0,.int .u8 0,.int .u8 0,.int .u8 0,.int .u8 0,.int .u8 0,.int .u8 0,.int .u8 0,.int .u8 0,.int .u8 0,.int .u8 0,.int .u8 0,.int .u8 0,.int .u8 0,.int .u8 0,.int .u8 0,.int .u8 0,.int .u8 0,.int .u8 0,.int .u8 0,.int .u8 0,.int .u8 0,.int .u8 0,.int .u8 0,.int .u8 0,.int .u8 0,.int .u8 0,.int .u8 0,.int .u8 0,.int .u8 0,.int .u8 0,.int .u8 0,.int .u8 0,.int .u8 0,.int .u8 0,.int .u8 0,.int .u8 0,.int .u8 0,.int .u8 0,.int .u8 0,.int .u8 0,.int .u8 0,.int .u8 0,.int .u8 0,.int .u8 0,.int .u8 0,.int .u8 0,.int .u8 0,.int .u8 0,.int .u8 0,.int .u8 0,.int .u8 0,.int .u8 0,.int .u8 0,.int .u8 0,.int .u8 0,.int .u8 0,.int .u8 0,.int .u8 0,.int .u8 0,.int .u8 0,.int .u8 0,.int .u8 0,.int .u8 0,.int .u8 0,.int .u8 0,.int .u8 0,.int .u8 0,.int .u8 0,.int .u8 0,.int .u8 0,.int .u8 0,.int .u8 0,.int .u8 0,.int .u8 0,.int .u8 0,.int .u8 0,.int .u8 0,.int .u8 0,.int .u8 0,.int .u8 0,.int .u8 0,.int .u8 0,.int .u8 0,.int .u8 0,.int .u8 0,.int .u8 0,.int .u8 0,.int .u8 0,.int .u8 0,.int .u8 0,.int .u8 0,.int .u8 0,.int .u8 0,.int .u8 0,.int .u8 0,.int .u8 0,.int .u8 0,.int .u8 0,.int .u8 0,.int .u8 0,.int .u8 0,.int .u8 0,.int .u8 0,.int .u8 0,.int .u8 0,.int .u8 0]:List C)=Rn.map fun x=>C.int .u8 (x.toNat:Int):=rfl
 rw [h1,aKm,h]
 rfl
abbrev Ae.dv (x:Ae):List DV:=[.sl 1 (Ac eI x.L),.val (.int .i64 x.At)]
def Ae.enc (x:Ae):List C:=[.sl 1 (Ac eI x.L),.int .i64 x.At]
theorem Ae.enc_len (x:Ae):(Ae.enc x).length=2:=rfl
abbrev Ah.dv (x:Ah):List DV:=[.val (.int .i64 x.Alg),.val (.int .i64 x.Bits)]
def Ah.enc (x:Ah):List C:=[.int .i64 x.Alg,.int .i64 x.Bits]
theorem Ah.enc_len (x:Ah):(Ah.enc x).length=2:=rfl
abbrev E9.dv (x:E9):List DV:=[.val (.int .i64 x.Key),.val (.int .i64 x.Sum)]
def E9.enc (x:E9):List C:=[.int .i64 x.Key,.int .i64 x.Sum]
theorem E9.enc_len (x:E9):(E9.enc x).length=2:=rfl
abbrev Ab.dv (x:Ab):List DV:=[.val (.int .i64 x.Serial),.val (.string x.Issuer),.val (.string x.Subject),.val (.int .i64 x.Key.Alg),.val (.int .i64 x.Key.Bits),.val (.int .i64 x.KeyId),.val (.int .i64 x.Hash.Alg),.val (.int .i64 x.Hash.Bits),.val (.int .i64 x.From),.val (.int .i64 x.To),.val (.bool x.Authority),.val (.int .i64 x.Path),.sl 1 (Ac eS x.Names),.val (.int .i64 x.Seal.Key),.val (.int .i64 x.Seal.Sum)]
def Ab.enc (x:Ab):List C:=[.int .i64 x.Serial,.str x.Issuer,.str x.Subject,.int .i64 x.Key.Alg,.int .i64 x.Key.Bits,.int .i64 x.KeyId,.int .i64 x.Hash.Alg,.int .i64 x.Hash.Bits,.int .i64 x.From,.int .i64 x.To,.bool x.Authority,.int .i64 x.Path,.sl 1 (Ac eS x.Names),.int .i64 x.Seal.Key,.int .i64 x.Seal.Sum]
theorem Ab.enc_len (x:Ab):(Ab.enc x).length=15:=rfl
abbrev Av.dv (x:Av):List DV:=[.val (.int .i64 x.Key.Alg),.val (.int .i64 x.Key.Bits),.val (.int .i64 x.KeyId),.sl 15 (Ac Ab.enc x.Chain)]
def Av.enc (x:Av):List C:=[.int .i64 x.Key.Alg,.int .i64 x.Key.Bits,.int .i64 x.KeyId,.sl 15 (Ac Ab.enc x.Chain)]
theorem Av.enc_len (x:Av):(Av.enc x).length=4:=rfl
abbrev Ad.dv (x:Ad):List DV:=[.val (.string x.Name),.val (.int .i64 x.Least),.val (.int .i64 x.Most),.sl 1 (Ac eI x.Suites),.val (.bool x.OwnOrder),.sl 4 (Ac Av.enc x.Identities),.sl 1 (Ac eI x.Anchors),.sl 1 (Ac eI x.Hashes),.val (.bool x.Fallback)]
def Ad.enc (x:Ad):List C:=[.str x.Name,.int .i64 x.Least,.int .i64 x.Most,.sl 1 (Ac eI x.Suites),.bool x.OwnOrder,.sl 4 (Ac Av.enc x.Identities),.sl 1 (Ac eI x.Anchors),.sl 1 (Ac eI x.Hashes),.bool x.Fallback]
abbrev Ad.ec (x:Ad):List C:=[.str x.Name,.int .i64 x.Least,.int .i64 x.Most,.sl 1 (Ac eI x.Suites),.bool x.OwnOrder,.sl 4 (Ac Av.enc x.Identities),.sl 1 (Ac eI x.Anchors),.sl 1 (Ac eI x.Hashes),.bool x.Fallback]
theorem Ad.enc_len (x:Ad):(Ad.enc x).length=9:=rfl
abbrev Bi.dv (x:Bi):List DV:=[.val (.int .i64 x.Client),.val (.int .i64 x.Server)]
def Bi.enc (x:Bi):List C:=[.int .i64 x.Client,.int .i64 x.Server]
theorem Bi.enc_len (x:Bi):(Bi.enc x).length=2:=rfl
abbrev A1.dv (x:A1):List DV:=[.val (.int .i64 x.Use.Alg),.val (.int .i64 x.Use.Bits),.val (.int .i64 x.Day)]
def A1.enc (x:A1):List C:=[.int .i64 x.Use.Alg,.int .i64 x.Use.Bits,.int .i64 x.Day]
theorem A1.enc_len (x:A1):(A1.enc x).length=3:=rfl
abbrev Aq.dv (x:Aq):List DV:=[.val (.string x.Name),.val (.int .i64 x.Kind),.val (.int .i64 x.Purpose),.sl 3 (Ac A1.enc x.Links),.val (.int .i64 x.Until)]
def Aq.enc (x:Aq):List C:=[.str x.Name,.int .i64 x.Kind,.int .i64 x.Purpose,.sl 3 (Ac A1.enc x.Links),.int .i64 x.Until]
theorem Aq.enc_len (x:Aq):(Aq.enc x).length=5:=rfl
abbrev Ak.dv (x:Ak):List DV:=[.sl 9 (Ac Ad.enc x.Endpoints),.sl 2 (Ac Bi.enc x.Edges),.sl 5 (Ac Aq.enc x.Items)]
def Ak.enc (x:Ak):List C:=[.sl 9 (Ac Ad.enc x.Endpoints),.sl 2 (Ac Bi.enc x.Edges),.sl 5 (Ac Aq.enc x.Items)]
theorem Ak.enc_len (x:Ak):(Ak.enc x).length=3:=rfl
abbrev Al.dv (x:Al):List DV:=[.val (.bool x.Allow),.val (.int .i64 x.Alg),.val (.int .i64 x.Below),.val (.int .i64 x.Purpose),.val (.int .i64 x.From),.val (.int .i64 x.To)]
def Al.enc (x:Al):List C:=[.bool x.Allow,.int .i64 x.Alg,.int .i64 x.Below,.int .i64 x.Purpose,.int .i64 x.From,.int .i64 x.To]
theorem Al.enc_len (x:Al):(Al.enc x).length=6:=rfl
abbrev Bk.dv (x:Bk):List DV:=[.val (.int .i64 x.Purpose),.val (.int .i64 x.Days)]
def Bk.enc (x:Bk):List C:=[.int .i64 x.Purpose,.int .i64 x.Days]
theorem Bk.enc_len (x:Bk):(Bk.enc x).length=2:=rfl
abbrev Br.dv (x:Br):List DV:=[.sl 6 (Ac Al.enc x.Rules),.sl 2 (Ac Bk.enc x.Keeps)]
def Br.enc (x:Br):List C:=[.sl 6 (Ac Al.enc x.Rules),.sl 2 (Ac Bk.enc x.Keeps)]
theorem Br.enc_len (x:Br):(Br.enc x).length=2:=rfl
abbrev L1.dv (x:L1):List DV:=[.val (.int .i64 x.Item),.val (.int .i64 x.Link.Use.Alg),.val (.int .i64 x.Link.Use.Bits),.val (.int .i64 x.Link.Day)]
def L1.enc (x:L1):List C:=[.int .i64 x.Item,.int .i64 x.Link.Use.Alg,.int .i64 x.Link.Use.Bits,.int .i64 x.Link.Day]
theorem L1.enc_len (x:L1):(L1.enc x).length=4:=rfl
abbrev Ay.dv (x:Ay):List DV:=[.val (.int .i64 x.Kind),.val (.int .i64 x.Index),.val (.int .i64 x.Suite)]
def Ay.enc (x:Ay):List C:=[.int .i64 x.Kind,.int .i64 x.Index,.int .i64 x.Suite]
theorem Ay.enc_len (x:Ay):(Ay.enc x).length=3:=rfl
abbrev Bh.dv (x:Bh):List DV:=[.val (.int .i64 x.From),.val (.int .i64 x.To)]
def Bh.enc (x:Bh):List C:=[.int .i64 x.From,.int .i64 x.To]
theorem Bh.enc_len (x:Bh):(Bh.enc x).length=2:=rfl
abbrev Ap.dv (x:Ap):List DV:=[.val (.int .i64 x.Use.Alg),.val (.int .i64 x.Use.Bits),.val (.int .i64 x.Purpose),.val (.string x.Endpoint),.val (.int .i64 x.Days.From),.val (.int .i64 x.Days.To),.sl 2 (Ac E9.enc x.Seals)]
def Ap.enc (x:Ap):List C:=[.int .i64 x.Use.Alg,.int .i64 x.Use.Bits,.int .i64 x.Purpose,.str x.Endpoint,.int .i64 x.Days.From,.int .i64 x.Days.To,.sl 2 (Ac E9.enc x.Seals)]
theorem Ap.enc_len (x:Ap):(Ap.enc x).length=7:=rfl
abbrev Fl.dv (x:Fl):List DV:=[.sl 1 (Ac eI x.Keys),.val (.int .i64 x.Need)]
def Fl.enc (x:Fl):List C:=[.sl 1 (Ac eI x.Keys),.int .i64 x.Need]
theorem Fl.enc_len (x:Fl):(Fl.enc x).length=2:=rfl
abbrev Bq.dv (x:Bq):List DV:=[.val (.int .i64 x.First),.val (.int .i64 x.Then)]
def Bq.enc (x:Bq):List C:=[.int .i64 x.First,.int .i64 x.Then]
theorem Bq.enc_len (x:Bq):(Bq.enc x).length=2:=rfl
abbrev Aw.dv (x:Aw):List DV:=[.val (.int .i64 x.Days.From),.val (.int .i64 x.Days.To),.sl 1 (Ac eI x.Teams)]
def Aw.enc (x:Aw):List C:=[.int .i64 x.Days.From,.int .i64 x.Days.To,.sl 1 (Ac eI x.Teams)]
theorem Aw.enc_len (x:Aw):(Aw.enc x).length=3:=rfl
abbrev A5.dv (x:A5):List DV:=[.sl 3 (Ac Aw.enc x.Windows),.sl 1 (Ac eI x.Team),.sl 1 (Ac eI x.Room)]
def A5.enc (x:A5):List C:=[.sl 3 (Ac Aw.enc x.Windows),.sl 1 (Ac eI x.Team),.sl 1 (Ac eI x.Room)]
abbrev A5.ec (x:A5):List C:=[.sl 3 (Ac Aw.enc x.Windows),.sl 1 (Ac eI x.Team),.sl 1 (Ac eI x.Room)]
theorem A5.enc_len (x:A5):(A5.enc x).length=3:=rfl
abbrev Fx.dv (x:Fx):List DV:=[.val (.int .i64 x.Endpoint),.val (.int .i64 x.Kind),.val (.int .i64 x.Number),.val (.int .i64 x.At),.val (.int .i64 x.Identity.Key.Alg),.val (.int .i64 x.Identity.Key.Bits),.val (.int .i64 x.Identity.KeyId),.sl 15 (Ac Ab.enc x.Identity.Chain)]
def Fx.enc (x:Fx):List C:=[.int .i64 x.Endpoint,.int .i64 x.Kind,.int .i64 x.Number,.int .i64 x.At,.int .i64 x.Identity.Key.Alg,.int .i64 x.Identity.Key.Bits,.int .i64 x.Identity.KeyId,.sl 15 (Ac Ab.enc x.Identity.Chain)]
theorem Fx.enc_len (x:Fx):(Fx.enc x).length=8:=rfl
abbrev A4.dv (x:A4):List DV:=[.val (.int .i64 x.n),.sl 1 (Ac (eK .u32) x.before),.sl 1 (Ac (eK .u32) x.after)]
def A4.enc (x:A4):List C:=[.int .i64 x.n,.sl 1 (Ac (eK .u32) x.before),.sl 1 (Ac (eK .u32) x.after)]
theorem A4.enc_len (x:A4):(A4.enc x).length=3:=rfl
abbrev Ao.dv (x:Ao):List DV:=[.val (.string x.name),.val (.int .i64 x.kind)]
def Ao.enc (x:Ao):List C:=[.str x.name,.int .i64 x.kind]
theorem Ao.enc_len (x:Ao):(Ao.enc x).length=2:=rfl
mutual
def Aa.enc:Aa->List C
 | ⟨Tag,Bytes,Nested,Elements⟩=>[.int .i64 Tag,.sl 1 (Ac e8 Bytes),.bool Nested,.sl 4 (Aa.encs Elements)]
def Aa.encs:List Aa->List C
 | []=>[]
 | x :: l=>Aa.enc x ++ Aa.encs l
end
theorem Aa.encs_eq:∀ (l:List Aa),Aa.encs l=Ac Aa.enc l
 | []=>rfl
 | x :: l=>by
  show Aa.enc x ++ Aa.encs l=Aa.enc x ++ Ac Aa.enc l
  rw [Aa.encs_eq l]
theorem Aa.enc_eq (x:Aa):Aa.enc x=[.int .i64 x.Tag,.sl 1 (Ac e8 x.Bytes),.bool x.Nested,.sl 4 (Ac Aa.enc x.Elements)]:=by
 cases x
 simp only [Aa.enc,Aa.encs_eq]
theorem Aa.enc_len (x:Aa):(Aa.enc x).length=4:=by rw [Aa.enc_eq]; rfl
abbrev Aa.dv (x:Aa):List DV:=[.val (.int .i64 x.Tag),.sl 1 (Ac e8 x.Bytes),.val (.bool x.Nested),.sl 4 (Ac Aa.enc x.Elements)]
abbrev Am.dv (x:Am):List DV:=[.val (.int .i64 x.Code),.val (.string x.Name),.val (.int .i64 x.Exchange.Alg),.val (.int .i64 x.Exchange.Bits),.val (.int .i64 x.Sign.Alg),.val (.int .i64 x.Sign.Bits),.val (.int .i64 x.Cipher.Alg),.val (.int .i64 x.Cipher.Bits),.val (.int .i64 x.Mac.Alg),.val (.int .i64 x.Mac.Bits),.val (.int .i64 x.Least),.val (.int .i64 x.Most)]
def Am.enc (x:Am):List C:=[.int .i64 x.Code,.str x.Name,.int .i64 x.Exchange.Alg,.int .i64 x.Exchange.Bits,.int .i64 x.Sign.Alg,.int .i64 x.Sign.Bits,.int .i64 x.Cipher.Alg,.int .i64 x.Cipher.Bits,.int .i64 x.Mac.Alg,.int .i64 x.Mac.Bits,.int .i64 x.Least,.int .i64 x.Most]
abbrev Am.ec (x:Am):List C:=[.int .i64 x.Code,.str x.Name,.int .i64 x.Exchange.Alg,.int .i64 x.Exchange.Bits,.int .i64 x.Sign.Alg,.int .i64 x.Sign.Bits,.int .i64 x.Cipher.Alg,.int .i64 x.Cipher.Bits,.int .i64 x.Mac.Alg,.int .i64 x.Mac.Bits,.int .i64 x.Least,.int .i64 x.Most]
theorem Am.enc_len (x:Am):(Am.enc x).length=12:=rfl
abbrev C9.dv (x:C9):List DV:=[.val (.string x.name),.val (.int .i64 x.kind),.val (.int .i64 x.way),.sl 1 (Ac eI x.sizes),.sl 1 (Ac eI x.strengths)]
def C9.enc (x:C9):List C:=[.str x.name,.int .i64 x.kind,.int .i64 x.way,.sl 1 (Ac eI x.sizes),.sl 1 (Ac eI x.strengths)]
theorem C9.enc_len (x:C9):(C9.enc x).length=5:=rfl
abbrev Bd.dv (x:Bd):List DV:=[.val (.int .i64 x.day),.val (.int .i64 x.fall),.val (.bool x.falls)]
def Bd.enc (x:Bd):List C:=[.int .i64 x.day,.int .i64 x.fall,.bool x.falls]
theorem Bd.enc_len (x:Bd):(Bd.enc x).length=3:=rfl
abbrev Fs.dv (x:Fs):List DV:=[.sl 9 (Ac Ad.enc x.estate.Endpoints),.sl 2 (Ac Bi.enc x.estate.Edges),.sl 5 (Ac Aq.enc x.estate.Items),.sl 6 (Ac Al.enc x.policy.Rules),.sl 2 (Ac Bk.enc x.policy.Keeps),.sl 7 (Ac Ap.enc x.exceptions),.sl 1 (Ac eI x.owners.Keys),.val (.int .i64 x.owners.Need),.val (.int .i64 x.weak)]
def Fs.enc (x:Fs):List C:=[.sl 9 (Ac Ad.enc x.estate.Endpoints),.sl 2 (Ac Bi.enc x.estate.Edges),.sl 5 (Ac Aq.enc x.estate.Items),.sl 6 (Ac Al.enc x.policy.Rules),.sl 2 (Ac Bk.enc x.policy.Keeps),.sl 7 (Ac Ap.enc x.exceptions),.sl 1 (Ac eI x.owners.Keys),.int .i64 x.owners.Need,.int .i64 x.weak]
theorem Fs.enc_len (x:Fs):(Fs.enc x).length=9:=rfl
abbrev C8.dv (x:C8):List DV:=[.val (.int .i64 x.Version),.val (.int .i64 x.Suite)]
def C8.enc (x:C8):List C:=[.int .i64 x.Version,.int .i64 x.Suite]
theorem C8.enc_len (x:C8):(C8.enc x).length=2:=rfl
abbrev Ai.dv (x:Ai):List DV:=[.val (.int .i64 x.Outcome.Version),.val (.int .i64 x.Outcome.Suite),.val (.int .i64 x.Most),.sl 1 (Ac eI x.Suites)]
def Ai.enc (x:Ai):List C:=[.int .i64 x.Outcome.Version,.int .i64 x.Outcome.Suite,.int .i64 x.Most,.sl 1 (Ac eI x.Suites)]
theorem Ai.enc_len (x:Ai):(Ai.enc x).length=4:=rfl
abbrev Cw.dv (x:Cw):List DV:=[.val (.string x.server.Name),.val (.int .i64 x.server.Least),.val (.int .i64 x.server.Most),.sl 1 (Ac eI x.server.Suites),.val (.bool x.server.OwnOrder),.sl 4 (Ac Av.enc x.server.Identities),.sl 1 (Ac eI x.server.Anchors),.sl 1 (Ac eI x.server.Hashes),.val (.bool x.server.Fallback),.val (.int .i64 x.version),.sl 1 (Ac eI x.suites)]
def Cw.enc (x:Cw):List C:=[.str x.server.Name,.int .i64 x.server.Least,.int .i64 x.server.Most,.sl 1 (Ac eI x.server.Suites),.bool x.server.OwnOrder,.sl 4 (Ac Av.enc x.server.Identities),.sl 1 (Ac eI x.server.Anchors),.sl 1 (Ac eI x.server.Hashes),.bool x.server.Fallback,.int .i64 x.version,.sl 1 (Ac eI x.suites)]
theorem Cw.enc_len (x:Cw):(Cw.enc x).length=11:=rfl
abbrev F0.dv (x:F0):List DV:=[.sl 1 (Ac eS x.words)]
def F0.enc (x:F0):List C:=[.sl 1 (Ac eS x.words)]
theorem F0.enc_len (x:F0):(F0.enc x).length=1:=rfl
abbrev Cd.c:Cd->C
 | .nil=>.raw .nilIface
 | .c235 x=>.ifc 235 (.sl 3 (Ac Bd.enc x))
 | .c236 x=>.ifc 236 (.sl 3 (Ac Bd.enc x))
theorem aCj:Tryz.prog.underlying 3=some (.int .i64):=by kernel_rfl
theorem aWd:Tryz.prog.underlying 4=some (.bool):=by kernel_rfl
theorem aE5:Tryz.prog.underlying 5=some (.int .u8):=by kernel_rfl
theorem dK:Tryz.prog.underlying 9=some (.string):=by kernel_rfl
theorem aK4:Tryz.prog.underlying 22=some (.slice 3):=by kernel_rfl
theorem eN:Tryz.prog.underlying 31=some (.struct ((match Tryz.prog.underlying 31 with | some (.struct f)=>f | _=>#[]))):=by kernel_rfl
theorem iZ:Tryz.prog.underlying 35=some (.struct ((match Tryz.prog.underlying 35 with | some (.struct f)=>f | _=>#[]))):=by kernel_rfl
theorem aEb:Tryz.prog.underlying 39=some (.struct ((match Tryz.prog.underlying 39 with | some (.struct f)=>f | _=>#[]))):=by kernel_rfl
theorem aKx:Tryz.prog.underlying 43=some (.slice 52):=by kernel_rfl
theorem Y8:Tryz.prog.underlying 47=some (.struct ((match Tryz.prog.underlying 47 with | some (.struct f)=>f | _=>#[]))):=by kernel_rfl
theorem T3:Tryz.prog.underlying 49=some (.struct ((match Tryz.prog.underlying 49 with | some (.struct f)=>f | _=>#[]))):=by kernel_rfl
theorem tE:Tryz.prog.underlying 52=some (.struct ((match Tryz.prog.underlying 52 with | some (.struct f)=>f | _=>#[]))):=by kernel_rfl
theorem aCp:Tryz.prog.underlying 56=some (.struct ((match Tryz.prog.underlying 56 with | some (.struct f)=>f | _=>#[]))):=by kernel_rfl
theorem aEt:Tryz.prog.underlying 61=some (.struct ((match Tryz.prog.underlying 61 with | some (.struct f)=>f | _=>#[]))):=by kernel_rfl
theorem jY:Tryz.prog.underlying 64=some (.struct ((match Tryz.prog.underlying 64 with | some (.struct f)=>f | _=>#[]))):=by kernel_rfl
theorem aCt:Tryz.prog.underlying 71=some (.struct ((match Tryz.prog.underlying 71 with | some (.struct f)=>f | _=>#[]))):=by kernel_rfl
theorem wV:Tryz.prog.underlying 77=some (.struct ((match Tryz.prog.underlying 77 with | some (.struct f)=>f | _=>#[]))):=by kernel_rfl
theorem aKr:Tryz.prog.underlying 81=some (.slice 86):=by kernel_rfl
theorem W9:Tryz.prog.underlying 83=some (.struct ((match Tryz.prog.underlying 83 with | some (.struct f)=>f | _=>#[]))):=by kernel_rfl
theorem aKy:Tryz.prog.underlying 84=some (.slice 148):=by kernel_rfl
theorem xR:Tryz.prog.underlying 86=some (.struct ((match Tryz.prog.underlying 86 with | some (.struct f)=>f | _=>#[]))):=by kernel_rfl
theorem aB8:Tryz.prog.underlying 88=some (.struct ((match Tryz.prog.underlying 88 with | some (.struct f)=>f | _=>#[]))):=by kernel_rfl
theorem aDx:Tryz.prog.underlying 90=some (.struct ((match Tryz.prog.underlying 90 with | some (.struct f)=>f | _=>#[]))):=by kernel_rfl
theorem aKu:Tryz.prog.underlying 91=some (.slice 9):=by kernel_rfl
theorem wY:Tryz.prog.underlying 98=some (.struct ((match Tryz.prog.underlying 98 with | some (.struct f)=>f | _=>#[]))):=by kernel_rfl
theorem dP:Tryz.prog.underlying 117=some (.struct ((match Tryz.prog.underlying 117 with | some (.struct f)=>f | _=>#[]))):=by kernel_rfl
theorem aPb:Tryz.prog.underlying 125=some (.int .u32):=by kernel_rfl
theorem uD:Tryz.prog.underlying 126=some (.int .u32):=by kernel_rfl
theorem nV:Tryz.prog.underlying 141=some (.struct ((match Tryz.prog.underlying 141 with | some (.struct f)=>f | _=>#[]))):=by kernel_rfl
theorem vW:Tryz.prog.underlying 143=some (.struct ((match Tryz.prog.underlying 143 with | some (.struct f)=>f | _=>#[]))):=by kernel_rfl
theorem kR:Tryz.prog.underlying 146=some (.struct ((match Tryz.prog.underlying 146 with | some (.struct f)=>f | _=>#[]))):=by kernel_rfl
theorem Qq:Tryz.prog.underlying 148=some (.struct ((match Tryz.prog.underlying 148 with | some (.struct f)=>f | _=>#[]))):=by kernel_rfl
theorem iN:Tryz.prog.underlying 177=some (.struct ((match Tryz.prog.underlying 177 with | some (.struct f)=>f | _=>#[]))):=by kernel_rfl
theorem R9:Tryz.prog.underlying 181=some (.struct ((match Tryz.prog.underlying 181 with | some (.struct f)=>f | _=>#[]))):=by kernel_rfl
theorem aC5:Tryz.prog.underlying 190=some (.struct ((match Tryz.prog.underlying 190 with | some (.struct f)=>f | _=>#[]))):=by kernel_rfl
theorem J0:Tryz.prog.underlying 201=some (.struct ((match Tryz.prog.underlying 201 with | some (.struct f)=>f | _=>#[]))):=by kernel_rfl
theorem oS:Tryz.prog.underlying 208=some (.struct ((match Tryz.prog.underlying 208 with | some (.struct f)=>f | _=>#[]))):=by kernel_rfl
theorem aMm:Tryz.prog.underlying 211=some (.int .u64):=by kernel_rfl
theorem aCg:Tryz.prog.underlying 212=some (.array 32 5):=by kernel_rfl
theorem aCb:Tryz.prog.underlying 219=some (.slice 5):=by kernel_rfl
theorem aBm:Tryz.prog.underlying 227=some (.struct ((match Tryz.prog.underlying 227 with | some (.struct f)=>f | _=>#[]))):=by kernel_rfl
theorem pA:Tryz.prog.underlying 234=some (.struct ((match Tryz.prog.underlying 234 with | some (.struct f)=>f | _=>#[]))):=by kernel_rfl
theorem aB2:Tryz.prog.underlying 235=some (.slice 234):=by kernel_rfl
theorem aE3:Tryz.prog.underlying 236=some (.slice 234):=by kernel_rfl
theorem aCl:Tryz.prog.underlying 258=some (.struct ((match Tryz.prog.underlying 258 with | some (.struct f)=>f | _=>#[]))):=by kernel_rfl
theorem aBw:Tryz.prog.underlying 270=some (.int .u64):=by kernel_rfl
theorem Qs:Tryz.prog.underlying 276=some (.struct ((match Tryz.prog.underlying 276 with | some (.struct f)=>f | _=>#[]))):=by kernel_rfl
theorem Jc:Tryz.prog.underlying 281=some (.struct ((match Tryz.prog.underlying 281 with | some (.struct f)=>f | _=>#[]))):=by kernel_rfl
theorem qC:Tryz.prog.underlying 290=some (.struct ((match Tryz.prog.underlying 290 with | some (.struct f)=>f | _=>#[]))):=by kernel_rfl
theorem hO:Tryz.prog.underlying 303=some (.array 256 5):=by kernel_rfl
theorem Ke:Tryz.prog.underlying 322=some (.struct ((match Tryz.prog.underlying 322 with | some (.struct f)=>f | _=>#[]))):=by kernel_rfl
theorem uY:Tryz.prog.underlying 333=some (.array 23 281):=by kernel_rfl
theorem Xx:Tryz.prog.underlying 335=some (.array 2 3):=by kernel_rfl
theorem uM:Tryz.prog.underlying 336=some (.array 5 335):=by kernel_rfl
theorem tX:Tryz.prog.underlying 343=some (.array 2 40):=by kernel_rfl
theorem vR:Tryz.prog.underlying 345=some (.array 3 40):=by kernel_rfl
theorem aJ3:Fd Tryz.prog 117 0 0 31:=⟨_,(match Tryz.prog.underlying 117 with | some (.struct f)=>f | _=>#[])[0]!,dP,by kernel_rfl,by kernel_rfl,by kernel_rfl⟩
theorem aG1:Fd Tryz.prog 117 1 3 39:=⟨_,(match Tryz.prog.underlying 117 with | some (.struct f)=>f | _=>#[])[1]!,dP,by kernel_rfl,by kernel_rfl,by kernel_rfl⟩
theorem aJf:Fd Tryz.prog 117 2 5 115:=⟨_,(match Tryz.prog.underlying 117 with | some (.struct f)=>f | _=>#[])[2]!,dP,by kernel_rfl,by kernel_rfl,by kernel_rfl⟩
theorem aIu:Fd Tryz.prog 117 3 6 61:=⟨_,(match Tryz.prog.underlying 117 with | some (.struct f)=>f | _=>#[])[3]!,dP,by kernel_rfl,by kernel_rfl,by kernel_rfl⟩
theorem aIl:Fd Tryz.prog 117 4 8 3:=⟨_,(match Tryz.prog.underlying 117 with | some (.struct f)=>f | _=>#[])[4]!,dP,by kernel_rfl,by kernel_rfl,by kernel_rfl⟩
theorem aJp:Fd Tryz.prog 141 0 0 3:=⟨_,(match Tryz.prog.underlying 141 with | some (.struct f)=>f | _=>#[])[0]!,nV,by kernel_rfl,by kernel_rfl,by kernel_rfl⟩
theorem aH6:Fd Tryz.prog 141 1 1 3:=⟨_,(match Tryz.prog.underlying 141 with | some (.struct f)=>f | _=>#[])[1]!,nV,by kernel_rfl,by kernel_rfl,by kernel_rfl⟩
theorem aJu:Fd Tryz.prog 143 0 0 141:=⟨_,(match Tryz.prog.underlying 143 with | some (.struct f)=>f | _=>#[])[0]!,vW,by kernel_rfl,by kernel_rfl,by kernel_rfl⟩
theorem aH9:Fd Tryz.prog 143 1 2 22:=⟨_,(match Tryz.prog.underlying 143 with | some (.struct f)=>f | _=>#[])[1]!,vW,by kernel_rfl,by kernel_rfl,by kernel_rfl⟩
theorem aHd:Fd Tryz.prog 146 0 0 3:=⟨_,(match Tryz.prog.underlying 146 with | some (.struct f)=>f | _=>#[])[0]!,kR,by kernel_rfl,by kernel_rfl,by kernel_rfl⟩
theorem aIc:Fd Tryz.prog 146 1 1 3:=⟨_,(match Tryz.prog.underlying 146 with | some (.struct f)=>f | _=>#[])[1]!,kR,by kernel_rfl,by kernel_rfl,by kernel_rfl⟩
theorem aIv:Fd Tryz.prog 148 0 0 3:=⟨_,(match Tryz.prog.underlying 148 with | some (.struct f)=>f | _=>#[])[0]!,Qq,by kernel_rfl,by kernel_rfl,by kernel_rfl⟩
theorem aGd:Fd Tryz.prog 148 1 1 9:=⟨_,(match Tryz.prog.underlying 148 with | some (.struct f)=>f | _=>#[])[1]!,Qq,by kernel_rfl,by kernel_rfl,by kernel_rfl⟩
theorem aEv:Fd Tryz.prog 148 10 12 91:=⟨_,(match Tryz.prog.underlying 148 with | some (.struct f)=>f | _=>#[])[10]!,Qq,by kernel_rfl,by kernel_rfl,by kernel_rfl⟩
theorem aD3:Fd Tryz.prog 148 11 13 146:=⟨_,(match Tryz.prog.underlying 148 with | some (.struct f)=>f | _=>#[])[11]!,Qq,by kernel_rfl,by kernel_rfl,by kernel_rfl⟩
theorem aHx:Fd Tryz.prog 148 2 2 9:=⟨_,(match Tryz.prog.underlying 148 with | some (.struct f)=>f | _=>#[])[2]!,Qq,by kernel_rfl,by kernel_rfl,by kernel_rfl⟩
theorem aHq:Fd Tryz.prog 148 3 3 49:=⟨_,(match Tryz.prog.underlying 148 with | some (.struct f)=>f | _=>#[])[3]!,Qq,by kernel_rfl,by kernel_rfl,by kernel_rfl⟩
theorem aG9:Fd Tryz.prog 148 4 5 3:=⟨_,(match Tryz.prog.underlying 148 with | some (.struct f)=>f | _=>#[])[4]!,Qq,by kernel_rfl,by kernel_rfl,by kernel_rfl⟩
theorem aIy:Fd Tryz.prog 148 5 6 49:=⟨_,(match Tryz.prog.underlying 148 with | some (.struct f)=>f | _=>#[])[5]!,Qq,by kernel_rfl,by kernel_rfl,by kernel_rfl⟩
theorem aIe:Fd Tryz.prog 148 6 8 3:=⟨_,(match Tryz.prog.underlying 148 with | some (.struct f)=>f | _=>#[])[6]!,Qq,by kernel_rfl,by kernel_rfl,by kernel_rfl⟩
theorem aKe:Fd Tryz.prog 148 7 9 3:=⟨_,(match Tryz.prog.underlying 148 with | some (.struct f)=>f | _=>#[])[7]!,Qq,by kernel_rfl,by kernel_rfl,by kernel_rfl⟩
theorem aI9:Fd Tryz.prog 148 8 10 4:=⟨_,(match Tryz.prog.underlying 148 with | some (.struct f)=>f | _=>#[])[8]!,Qq,by kernel_rfl,by kernel_rfl,by kernel_rfl⟩
theorem aI8:Fd Tryz.prog 148 9 11 3:=⟨_,(match Tryz.prog.underlying 148 with | some (.struct f)=>f | _=>#[])[9]!,Qq,by kernel_rfl,by kernel_rfl,by kernel_rfl⟩
theorem aIq:Fd Tryz.prog 177 0 0 49:=⟨_,(match Tryz.prog.underlying 177 with | some (.struct f)=>f | _=>#[])[0]!,iN,by kernel_rfl,by kernel_rfl,by kernel_rfl⟩
theorem aH2:Fd Tryz.prog 177 1 2 3:=⟨_,(match Tryz.prog.underlying 177 with | some (.struct f)=>f | _=>#[])[1]!,iN,by kernel_rfl,by kernel_rfl,by kernel_rfl⟩
theorem aI3:Fd Tryz.prog 177 2 3 9:=⟨_,(match Tryz.prog.underlying 177 with | some (.struct f)=>f | _=>#[])[2]!,iN,by kernel_rfl,by kernel_rfl,by kernel_rfl⟩
theorem aGv:Fd Tryz.prog 177 3 4 141:=⟨_,(match Tryz.prog.underlying 177 with | some (.struct f)=>f | _=>#[])[3]!,iN,by kernel_rfl,by kernel_rfl,by kernel_rfl⟩
theorem aIt:Fd Tryz.prog 177 4 6 175:=⟨_,(match Tryz.prog.underlying 177 with | some (.struct f)=>f | _=>#[])[4]!,iN,by kernel_rfl,by kernel_rfl,by kernel_rfl⟩
theorem aJy:Fd Tryz.prog 181 0 0 3:=⟨_,(match Tryz.prog.underlying 181 with | some (.struct f)=>f | _=>#[])[0]!,R9,by kernel_rfl,by kernel_rfl,by kernel_rfl⟩
theorem aJt:Fd Tryz.prog 181 1 1 3:=⟨_,(match Tryz.prog.underlying 181 with | some (.struct f)=>f | _=>#[])[1]!,R9,by kernel_rfl,by kernel_rfl,by kernel_rfl⟩
theorem aKd:Fd Tryz.prog 190 0 0 181:=⟨_,(match Tryz.prog.underlying 190 with | some (.struct f)=>f | _=>#[])[0]!,aC5,by kernel_rfl,by kernel_rfl,by kernel_rfl⟩
theorem aIs:Fd Tryz.prog 201 0 0 3:=⟨_,(match Tryz.prog.underlying 201 with | some (.struct f)=>f | _=>#[])[0]!,J0,by kernel_rfl,by kernel_rfl,by kernel_rfl⟩
theorem aIh:Fd Tryz.prog 201 1 1 9:=⟨_,(match Tryz.prog.underlying 201 with | some (.struct f)=>f | _=>#[])[1]!,J0,by kernel_rfl,by kernel_rfl,by kernel_rfl⟩
theorem aGc:Fd Tryz.prog 201 2 2 49:=⟨_,(match Tryz.prog.underlying 201 with | some (.struct f)=>f | _=>#[])[2]!,J0,by kernel_rfl,by kernel_rfl,by kernel_rfl⟩
theorem oY:Fd Tryz.prog 201 3 4 49:=⟨_,(match Tryz.prog.underlying 201 with | some (.struct f)=>f | _=>#[])[3]!,J0,by kernel_rfl,by kernel_rfl,by kernel_rfl⟩
theorem aHo:Fd Tryz.prog 201 4 6 49:=⟨_,(match Tryz.prog.underlying 201 with | some (.struct f)=>f | _=>#[])[4]!,J0,by kernel_rfl,by kernel_rfl,by kernel_rfl⟩
theorem aJm:Fd Tryz.prog 201 5 8 49:=⟨_,(match Tryz.prog.underlying 201 with | some (.struct f)=>f | _=>#[])[5]!,J0,by kernel_rfl,by kernel_rfl,by kernel_rfl⟩
theorem aId:Fd Tryz.prog 201 6 10 3:=⟨_,(match Tryz.prog.underlying 201 with | some (.struct f)=>f | _=>#[])[6]!,J0,by kernel_rfl,by kernel_rfl,by kernel_rfl⟩
theorem aJl:Fd Tryz.prog 201 7 11 3:=⟨_,(match Tryz.prog.underlying 201 with | some (.struct f)=>f | _=>#[])[7]!,J0,by kernel_rfl,by kernel_rfl,by kernel_rfl⟩
theorem aIj:Fd Tryz.prog 208 0 0 3:=⟨_,(match Tryz.prog.underlying 208 with | some (.struct f)=>f | _=>#[])[0]!,oS,by kernel_rfl,by kernel_rfl,by kernel_rfl⟩
theorem aI4:Fd Tryz.prog 208 1 1 127:=⟨_,(match Tryz.prog.underlying 208 with | some (.struct f)=>f | _=>#[])[1]!,oS,by kernel_rfl,by kernel_rfl,by kernel_rfl⟩
theorem aGg:Fd Tryz.prog 208 2 2 127:=⟨_,(match Tryz.prog.underlying 208 with | some (.struct f)=>f | _=>#[])[2]!,oS,by kernel_rfl,by kernel_rfl,by kernel_rfl⟩
theorem aI2:Fd Tryz.prog 227 0 0 3:=⟨_,(match Tryz.prog.underlying 227 with | some (.struct f)=>f | _=>#[])[0]!,aBm,by kernel_rfl,by kernel_rfl,by kernel_rfl⟩
theorem aHu:Fd Tryz.prog 227 1 1 3:=⟨_,(match Tryz.prog.underlying 227 with | some (.struct f)=>f | _=>#[])[1]!,aBm,by kernel_rfl,by kernel_rfl,by kernel_rfl⟩
theorem aIn:Fd Tryz.prog 234 0 0 3:=⟨_,(match Tryz.prog.underlying 234 with | some (.struct f)=>f | _=>#[])[0]!,pA,by kernel_rfl,by kernel_rfl,by kernel_rfl⟩
theorem aHp:Fd Tryz.prog 234 1 1 3:=⟨_,(match Tryz.prog.underlying 234 with | some (.struct f)=>f | _=>#[])[1]!,pA,by kernel_rfl,by kernel_rfl,by kernel_rfl⟩
theorem aGw:Fd Tryz.prog 234 2 2 4:=⟨_,(match Tryz.prog.underlying 234 with | some (.struct f)=>f | _=>#[])[2]!,pA,by kernel_rfl,by kernel_rfl,by kernel_rfl⟩
theorem aH3:Fd Tryz.prog 258 0 0 91:=⟨_,(match Tryz.prog.underlying 258 with | some (.struct f)=>f | _=>#[])[0]!,aCl,by kernel_rfl,by kernel_rfl,by kernel_rfl⟩
theorem aJa:Fd Tryz.prog 276 0 0 3:=⟨_,(match Tryz.prog.underlying 276 with | some (.struct f)=>f | _=>#[])[0]!,Qs,by kernel_rfl,by kernel_rfl,by kernel_rfl⟩
theorem aI6:Fd Tryz.prog 276 1 1 219:=⟨_,(match Tryz.prog.underlying 276 with | some (.struct f)=>f | _=>#[])[1]!,Qs,by kernel_rfl,by kernel_rfl,by kernel_rfl⟩
theorem aGl:Fd Tryz.prog 276 2 2 4:=⟨_,(match Tryz.prog.underlying 276 with | some (.struct f)=>f | _=>#[])[2]!,Qs,by kernel_rfl,by kernel_rfl,by kernel_rfl⟩
theorem aGf:Fd Tryz.prog 276 3 3 274:=⟨_,(match Tryz.prog.underlying 276 with | some (.struct f)=>f | _=>#[])[3]!,Qs,by kernel_rfl,by kernel_rfl,by kernel_rfl⟩
theorem aGu:Fd Tryz.prog 281 1 1 3:=⟨_,(match Tryz.prog.underlying 281 with | some (.struct f)=>f | _=>#[])[1]!,Jc,by kernel_rfl,by kernel_rfl,by kernel_rfl⟩
theorem aG3:Fd Tryz.prog 281 2 2 3:=⟨_,(match Tryz.prog.underlying 281 with | some (.struct f)=>f | _=>#[])[2]!,Jc,by kernel_rfl,by kernel_rfl,by kernel_rfl⟩
theorem aKb:Fd Tryz.prog 281 3 3 22:=⟨_,(match Tryz.prog.underlying 281 with | some (.struct f)=>f | _=>#[])[3]!,Jc,by kernel_rfl,by kernel_rfl,by kernel_rfl⟩
theorem aHe:Fd Tryz.prog 281 4 4 22:=⟨_,(match Tryz.prog.underlying 281 with | some (.struct f)=>f | _=>#[])[4]!,Jc,by kernel_rfl,by kernel_rfl,by kernel_rfl⟩
theorem aGs:Fd Tryz.prog 290 0 0 83:=⟨_,(match Tryz.prog.underlying 290 with | some (.struct f)=>f | _=>#[])[0]!,qC,by kernel_rfl,by kernel_rfl,by kernel_rfl⟩
theorem aGq:Fd Tryz.prog 290 1 9 3:=⟨_,(match Tryz.prog.underlying 290 with | some (.struct f)=>f | _=>#[])[1]!,qC,by kernel_rfl,by kernel_rfl,by kernel_rfl⟩
theorem aKa:Fd Tryz.prog 290 2 10 22:=⟨_,(match Tryz.prog.underlying 290 with | some (.struct f)=>f | _=>#[])[2]!,qC,by kernel_rfl,by kernel_rfl,by kernel_rfl⟩
theorem aMi:Fd Tryz.prog 31 0 0 27:=⟨_,(match Tryz.prog.underlying 31 with | some (.struct f)=>f | _=>#[])[0]!,eN,by kernel_rfl,by kernel_rfl,by kernel_rfl⟩
theorem aN1:Fd Tryz.prog 31 1 1 28:=⟨_,(match Tryz.prog.underlying 31 with | some (.struct f)=>f | _=>#[])[1]!,eN,by kernel_rfl,by kernel_rfl,by kernel_rfl⟩
theorem aMv:Fd Tryz.prog 31 2 2 29:=⟨_,(match Tryz.prog.underlying 31 with | some (.struct f)=>f | _=>#[])[2]!,eN,by kernel_rfl,by kernel_rfl,by kernel_rfl⟩
theorem aGy:Fd Tryz.prog 322 1 1 3:=⟨_,(match Tryz.prog.underlying 322 with | some (.struct f)=>f | _=>#[])[1]!,Ke,by kernel_rfl,by kernel_rfl,by kernel_rfl⟩
theorem aMp:Fd Tryz.prog 35 0 0 4:=⟨_,(match Tryz.prog.underlying 35 with | some (.struct f)=>f | _=>#[])[0]!,iZ,by kernel_rfl,by kernel_rfl,by kernel_rfl⟩
theorem aOm:Fd Tryz.prog 35 1 1 3:=⟨_,(match Tryz.prog.underlying 35 with | some (.struct f)=>f | _=>#[])[1]!,iZ,by kernel_rfl,by kernel_rfl,by kernel_rfl⟩
theorem aL5:Fd Tryz.prog 35 2 2 3:=⟨_,(match Tryz.prog.underlying 35 with | some (.struct f)=>f | _=>#[])[2]!,iZ,by kernel_rfl,by kernel_rfl,by kernel_rfl⟩
theorem aL8:Fd Tryz.prog 35 3 3 3:=⟨_,(match Tryz.prog.underlying 35 with | some (.struct f)=>f | _=>#[])[3]!,iZ,by kernel_rfl,by kernel_rfl,by kernel_rfl⟩
theorem aOw:Fd Tryz.prog 35 4 4 3:=⟨_,(match Tryz.prog.underlying 35 with | some (.struct f)=>f | _=>#[])[4]!,iZ,by kernel_rfl,by kernel_rfl,by kernel_rfl⟩
theorem aOt:Fd Tryz.prog 35 5 5 3:=⟨_,(match Tryz.prog.underlying 35 with | some (.struct f)=>f | _=>#[])[5]!,iZ,by kernel_rfl,by kernel_rfl,by kernel_rfl⟩
theorem aL3:Fd Tryz.prog 39 0 0 36:=⟨_,(match Tryz.prog.underlying 39 with | some (.struct f)=>f | _=>#[])[0]!,aEb,by kernel_rfl,by kernel_rfl,by kernel_rfl⟩
theorem aLu:Fd Tryz.prog 39 1 1 37:=⟨_,(match Tryz.prog.underlying 39 with | some (.struct f)=>f | _=>#[])[1]!,aEb,by kernel_rfl,by kernel_rfl,by kernel_rfl⟩
theorem aMt:Fd Tryz.prog 47 0 0 9:=⟨_,(match Tryz.prog.underlying 47 with | some (.struct f)=>f | _=>#[])[0]!,Y8,by kernel_rfl,by kernel_rfl,by kernel_rfl⟩
theorem aNf:Fd Tryz.prog 47 1 1 3:=⟨_,(match Tryz.prog.underlying 47 with | some (.struct f)=>f | _=>#[])[1]!,Y8,by kernel_rfl,by kernel_rfl,by kernel_rfl⟩
theorem aMg:Fd Tryz.prog 47 2 2 3:=⟨_,(match Tryz.prog.underlying 47 with | some (.struct f)=>f | _=>#[])[2]!,Y8,by kernel_rfl,by kernel_rfl,by kernel_rfl⟩
theorem aLr:Fd Tryz.prog 47 3 3 43:=⟨_,(match Tryz.prog.underlying 47 with | some (.struct f)=>f | _=>#[])[3]!,Y8,by kernel_rfl,by kernel_rfl,by kernel_rfl⟩
theorem aO8:Fd Tryz.prog 47 4 4 3:=⟨_,(match Tryz.prog.underlying 47 with | some (.struct f)=>f | _=>#[])[4]!,Y8,by kernel_rfl,by kernel_rfl,by kernel_rfl⟩
theorem uP:Fd Tryz.prog 49 0 0 3:=⟨_,(match Tryz.prog.underlying 49 with | some (.struct f)=>f | _=>#[])[0]!,T3,by kernel_rfl,by kernel_rfl,by kernel_rfl⟩
theorem aPw:Fd Tryz.prog 49 1 1 3:=⟨_,(match Tryz.prog.underlying 49 with | some (.struct f)=>f | _=>#[])[1]!,T3,by kernel_rfl,by kernel_rfl,by kernel_rfl⟩
theorem aPe:Fd Tryz.prog 52 0 0 49:=⟨_,(match Tryz.prog.underlying 52 with | some (.struct f)=>f | _=>#[])[0]!,tE,by kernel_rfl,by kernel_rfl,by kernel_rfl⟩
theorem aCr:Fd Tryz.prog 52 1 2 3:=⟨_,(match Tryz.prog.underlying 52 with | some (.struct f)=>f | _=>#[])[1]!,tE,by kernel_rfl,by kernel_rfl,by kernel_rfl⟩
theorem aLx:Fd Tryz.prog 56 0 0 3:=⟨_,(match Tryz.prog.underlying 56 with | some (.struct f)=>f | _=>#[])[0]!,aCp,by kernel_rfl,by kernel_rfl,by kernel_rfl⟩
theorem aPk:Fd Tryz.prog 56 1 1 52:=⟨_,(match Tryz.prog.underlying 56 with | some (.struct f)=>f | _=>#[])[1]!,aCp,by kernel_rfl,by kernel_rfl,by kernel_rfl⟩
theorem aO3:Fd Tryz.prog 61 0 0 22:=⟨_,(match Tryz.prog.underlying 61 with | some (.struct f)=>f | _=>#[])[0]!,aEt,by kernel_rfl,by kernel_rfl,by kernel_rfl⟩
theorem aM3:Fd Tryz.prog 61 1 1 3:=⟨_,(match Tryz.prog.underlying 61 with | some (.struct f)=>f | _=>#[])[1]!,aEt,by kernel_rfl,by kernel_rfl,by kernel_rfl⟩
theorem aPa:Fd Tryz.prog 64 0 0 3:=⟨_,(match Tryz.prog.underlying 64 with | some (.struct f)=>f | _=>#[])[0]!,jY,by kernel_rfl,by kernel_rfl,by kernel_rfl⟩
theorem aPn:Fd Tryz.prog 64 1 1 3:=⟨_,(match Tryz.prog.underlying 64 with | some (.struct f)=>f | _=>#[])[1]!,jY,by kernel_rfl,by kernel_rfl,by kernel_rfl⟩
theorem aPz:Fd Tryz.prog 64 2 2 3:=⟨_,(match Tryz.prog.underlying 64 with | some (.struct f)=>f | _=>#[])[2]!,jY,by kernel_rfl,by kernel_rfl,by kernel_rfl⟩
theorem aOf:Fd Tryz.prog 71 0 0 3:=⟨_,(match Tryz.prog.underlying 71 with | some (.struct f)=>f | _=>#[])[0]!,aCt,by kernel_rfl,by kernel_rfl,by kernel_rfl⟩
theorem aPs:Fd Tryz.prog 71 1 1 3:=⟨_,(match Tryz.prog.underlying 71 with | some (.struct f)=>f | _=>#[])[1]!,aCt,by kernel_rfl,by kernel_rfl,by kernel_rfl⟩
theorem aEu:Fd Tryz.prog 77 0 0 75:=⟨_,(match Tryz.prog.underlying 77 with | some (.struct f)=>f | _=>#[])[0]!,wV,by kernel_rfl,by kernel_rfl,by kernel_rfl⟩
theorem uA:Fd Tryz.prog 77 1 1 22:=⟨_,(match Tryz.prog.underlying 77 with | some (.struct f)=>f | _=>#[])[1]!,wV,by kernel_rfl,by kernel_rfl,by kernel_rfl⟩
theorem aL7:Fd Tryz.prog 77 2 2 22:=⟨_,(match Tryz.prog.underlying 77 with | some (.struct f)=>f | _=>#[])[2]!,wV,by kernel_rfl,by kernel_rfl,by kernel_rfl⟩
theorem aNi:Fd Tryz.prog 83 0 0 9:=⟨_,(match Tryz.prog.underlying 83 with | some (.struct f)=>f | _=>#[])[0]!,W9,by kernel_rfl,by kernel_rfl,by kernel_rfl⟩
theorem uH:Fd Tryz.prog 83 1 1 3:=⟨_,(match Tryz.prog.underlying 83 with | some (.struct f)=>f | _=>#[])[1]!,W9,by kernel_rfl,by kernel_rfl,by kernel_rfl⟩
theorem oX:Fd Tryz.prog 83 2 2 3:=⟨_,(match Tryz.prog.underlying 83 with | some (.struct f)=>f | _=>#[])[2]!,W9,by kernel_rfl,by kernel_rfl,by kernel_rfl⟩
theorem wA:Fd Tryz.prog 83 3 3 22:=⟨_,(match Tryz.prog.underlying 83 with | some (.struct f)=>f | _=>#[])[3]!,W9,by kernel_rfl,by kernel_rfl,by kernel_rfl⟩
theorem aP2:Fd Tryz.prog 83 4 4 4:=⟨_,(match Tryz.prog.underlying 83 with | some (.struct f)=>f | _=>#[])[4]!,W9,by kernel_rfl,by kernel_rfl,by kernel_rfl⟩
theorem aOd:Fd Tryz.prog 83 5 5 81:=⟨_,(match Tryz.prog.underlying 83 with | some (.struct f)=>f | _=>#[])[5]!,W9,by kernel_rfl,by kernel_rfl,by kernel_rfl⟩
theorem aOg:Fd Tryz.prog 83 6 6 22:=⟨_,(match Tryz.prog.underlying 83 with | some (.struct f)=>f | _=>#[])[6]!,W9,by kernel_rfl,by kernel_rfl,by kernel_rfl⟩
theorem aLs:Fd Tryz.prog 83 7 7 22:=⟨_,(match Tryz.prog.underlying 83 with | some (.struct f)=>f | _=>#[])[7]!,W9,by kernel_rfl,by kernel_rfl,by kernel_rfl⟩
theorem aEr:Fd Tryz.prog 83 8 8 4:=⟨_,(match Tryz.prog.underlying 83 with | some (.struct f)=>f | _=>#[])[8]!,W9,by kernel_rfl,by kernel_rfl,by kernel_rfl⟩
theorem aLv:Fd Tryz.prog 86 0 0 49:=⟨_,(match Tryz.prog.underlying 86 with | some (.struct f)=>f | _=>#[])[0]!,xR,by kernel_rfl,by kernel_rfl,by kernel_rfl⟩
theorem aNs:Fd Tryz.prog 86 1 2 3:=⟨_,(match Tryz.prog.underlying 86 with | some (.struct f)=>f | _=>#[])[1]!,xR,by kernel_rfl,by kernel_rfl,by kernel_rfl⟩
theorem aPx:Fd Tryz.prog 86 2 3 84:=⟨_,(match Tryz.prog.underlying 86 with | some (.struct f)=>f | _=>#[])[2]!,xR,by kernel_rfl,by kernel_rfl,by kernel_rfl⟩
theorem aOl:Fd Tryz.prog 88 1 1 3:=⟨_,(match Tryz.prog.underlying 88 with | some (.struct f)=>f | _=>#[])[1]!,aB8,by kernel_rfl,by kernel_rfl,by kernel_rfl⟩
theorem aM8:Fd Tryz.prog 88 2 2 3:=⟨_,(match Tryz.prog.underlying 88 with | some (.struct f)=>f | _=>#[])[2]!,aB8,by kernel_rfl,by kernel_rfl,by kernel_rfl⟩
theorem aNw:Fd Tryz.prog 90 0 0 22:=⟨_,(match Tryz.prog.underlying 90 with | some (.struct f)=>f | _=>#[])[0]!,aDx,by kernel_rfl,by kernel_rfl,by kernel_rfl⟩
theorem aMk:Fd Tryz.prog 90 1 1 3:=⟨_,(match Tryz.prog.underlying 90 with | some (.struct f)=>f | _=>#[])[1]!,aDx,by kernel_rfl,by kernel_rfl,by kernel_rfl⟩
theorem aM0:Fd Tryz.prog 98 0 0 3:=⟨_,(match Tryz.prog.underlying 98 with | some (.struct f)=>f | _=>#[])[0]!,wY,by kernel_rfl,by kernel_rfl,by kernel_rfl⟩
theorem aNu:Fd Tryz.prog 98 1 1 3:=⟨_,(match Tryz.prog.underlying 98 with | some (.struct f)=>f | _=>#[])[1]!,wY,by kernel_rfl,by kernel_rfl,by kernel_rfl⟩
theorem aTt:((match Tryz.prog.underlying 117 with | some (.struct f)=>f | _=>#[]):Array Field).toList.map (fun f=>(Tryz.prog.info? f.type).map fun i=>(f.offset,i.size))=[(0,3),(3,2),(5,1),(6,2),(8,1)].map some:=by kernel_rfl
theorem aKn:((match Tryz.prog.underlying 141 with | some (.struct f)=>f | _=>#[]):Array Field).toList.map (fun f=>(Tryz.prog.info? f.type).map fun i=>(f.offset,i.size))=[(0,1),(1,1)].map some:=by kernel_rfl
theorem aQl:((match Tryz.prog.underlying 143 with | some (.struct f)=>f | _=>#[]):Array Field).toList.map (fun f=>(Tryz.prog.info? f.type).map fun i=>(f.offset,i.size))=[(0,2),(2,1)].map some:=by kernel_rfl
theorem aDs:((match Tryz.prog.underlying 146 with | some (.struct f)=>f | _=>#[]):Array Field).toList.map (fun f=>(Tryz.prog.info? f.type).map fun i=>(f.offset,i.size))=[(0,1),(1,1)].map some:=by kernel_rfl
theorem aKt:((match Tryz.prog.underlying 148 with | some (.struct f)=>f | _=>#[]):Array Field).toList.map (fun f=>(Tryz.prog.info? f.type).map fun i=>(f.offset,i.size))=[(0,1),(1,1),(2,1),(3,2),(5,1),(6,2),(8,1),(9,1),(10,1),(11,1),(12,1),(13,2)].map some:=by kernel_rfl
theorem Y4:((match Tryz.prog.underlying 181 with | some (.struct f)=>f | _=>#[]):Array Field).toList.map (fun f=>(Tryz.prog.info? f.type).map fun i=>(f.offset,i.size))=[(0,1),(1,1)].map some:=by kernel_rfl
theorem aRv:((match Tryz.prog.underlying 190 with | some (.struct f)=>f | _=>#[]):Array Field).toList.map (fun f=>(Tryz.prog.info? f.type).map fun i=>(f.offset,i.size))=[(0,2),(2,1),(3,1)].map some:=by kernel_rfl
theorem R0:((match Tryz.prog.underlying 201 with | some (.struct f)=>f | _=>#[]):Array Field).toList.map (fun f=>(Tryz.prog.info? f.type).map fun i=>(f.offset,i.size))=[(0,1),(1,1),(2,2),(4,2),(6,2),(8,2),(10,1),(11,1)].map some:=by kernel_rfl
theorem aSa:((match Tryz.prog.underlying 208 with | some (.struct f)=>f | _=>#[]):Array Field).toList.map (fun f=>(Tryz.prog.info? f.type).map fun i=>(f.offset,i.size))=[(0,1),(1,1),(2,1)].map some:=by kernel_rfl
theorem aSx:((match Tryz.prog.underlying 234 with | some (.struct f)=>f | _=>#[]):Array Field).toList.map (fun f=>(Tryz.prog.info? f.type).map fun i=>(f.offset,i.size))=[(0,1),(1,1),(2,1)].map some:=by kernel_rfl
theorem aR9:((match Tryz.prog.underlying 258 with | some (.struct f)=>f | _=>#[]):Array Field).toList.map (fun f=>(Tryz.prog.info? f.type).map fun i=>(f.offset,i.size))=[(0,1)].map some:=by kernel_rfl
theorem Y7:((match Tryz.prog.underlying 276 with | some (.struct f)=>f | _=>#[]):Array Field).toList.map (fun f=>(Tryz.prog.info? f.type).map fun i=>(f.offset,i.size))=[(0,1),(1,1),(2,1),(3,1)].map some:=by kernel_rfl
theorem Oa:((match Tryz.prog.underlying 281 with | some (.struct f)=>f | _=>#[]):Array Field).toList.map (fun f=>(Tryz.prog.info? f.type).map fun i=>(f.offset,i.size))=[(0,1),(1,1),(2,1),(3,1),(4,1)].map some:=by kernel_rfl
theorem aRo:((match Tryz.prog.underlying 290 with | some (.struct f)=>f | _=>#[]):Array Field).toList.map (fun f=>(Tryz.prog.info? f.type).map fun i=>(f.offset,i.size))=[(0,9),(9,1),(10,1)].map some:=by kernel_rfl
theorem aB1:((match Tryz.prog.underlying 31 with | some (.struct f)=>f | _=>#[]):Array Field).toList.map (fun f=>(Tryz.prog.info? f.type).map fun i=>(f.offset,i.size))=[(0,1),(1,1),(2,1)].map some:=by kernel_rfl
theorem Ob:((match Tryz.prog.underlying 322 with | some (.struct f)=>f | _=>#[]):Array Field).toList.map (fun f=>(Tryz.prog.info? f.type).map fun i=>(f.offset,i.size))=[(0,1),(1,1)].map some:=by kernel_rfl
theorem aU8:((match Tryz.prog.underlying 35 with | some (.struct f)=>f | _=>#[]):Array Field).toList.map (fun f=>(Tryz.prog.info? f.type).map fun i=>(f.offset,i.size))=[(0,1),(1,1),(2,1),(3,1),(4,1),(5,1)].map some:=by kernel_rfl
theorem aU6:((match Tryz.prog.underlying 39 with | some (.struct f)=>f | _=>#[]):Array Field).toList.map (fun f=>(Tryz.prog.info? f.type).map fun i=>(f.offset,i.size))=[(0,1),(1,1)].map some:=by kernel_rfl
theorem aE1:((match Tryz.prog.underlying 47 with | some (.struct f)=>f | _=>#[]):Array Field).toList.map (fun f=>(Tryz.prog.info? f.type).map fun i=>(f.offset,i.size))=[(0,1),(1,1),(2,1),(3,1),(4,1)].map some:=by kernel_rfl
theorem fW:((match Tryz.prog.underlying 49 with | some (.struct f)=>f | _=>#[]):Array Field).toList.map (fun f=>(Tryz.prog.info? f.type).map fun i=>(f.offset,i.size))=[(0,1),(1,1)].map some:=by kernel_rfl
theorem aMh:((match Tryz.prog.underlying 52 with | some (.struct f)=>f | _=>#[]):Array Field).toList.map (fun f=>(Tryz.prog.info? f.type).map fun i=>(f.offset,i.size))=[(0,2),(2,1)].map some:=by kernel_rfl
theorem aV7:((match Tryz.prog.underlying 56 with | some (.struct f)=>f | _=>#[]):Array Field).toList.map (fun f=>(Tryz.prog.info? f.type).map fun i=>(f.offset,i.size))=[(0,1),(1,3)].map some:=by kernel_rfl
theorem aV3:((match Tryz.prog.underlying 61 with | some (.struct f)=>f | _=>#[]):Array Field).toList.map (fun f=>(Tryz.prog.info? f.type).map fun i=>(f.offset,i.size))=[(0,1),(1,1)].map some:=by kernel_rfl
theorem aIb:((match Tryz.prog.underlying 64 with | some (.struct f)=>f | _=>#[]):Array Field).toList.map (fun f=>(Tryz.prog.info? f.type).map fun i=>(f.offset,i.size))=[(0,1),(1,1),(2,1)].map some:=by kernel_rfl
theorem aVc:((match Tryz.prog.underlying 71 with | some (.struct f)=>f | _=>#[]):Array Field).toList.map (fun f=>(Tryz.prog.info? f.type).map fun i=>(f.offset,i.size))=[(0,1),(1,1)].map some:=by kernel_rfl
theorem aW5:((match Tryz.prog.underlying 77 with | some (.struct f)=>f | _=>#[]):Array Field).toList.map (fun f=>(Tryz.prog.info? f.type).map fun i=>(f.offset,i.size))=[(0,1),(1,1),(2,1)].map some:=by kernel_rfl
theorem aRa:((match Tryz.prog.underlying 83 with | some (.struct f)=>f | _=>#[]):Array Field).toList.map (fun f=>(Tryz.prog.info? f.type).map fun i=>(f.offset,i.size))=[(0,1),(1,1),(2,1),(3,1),(4,1),(5,1),(6,1),(7,1),(8,1)].map some:=by kernel_rfl
theorem aW0:((match Tryz.prog.underlying 86 with | some (.struct f)=>f | _=>#[]):Array Field).toList.map (fun f=>(Tryz.prog.info? f.type).map fun i=>(f.offset,i.size))=[(0,2),(2,1),(3,1)].map some:=by kernel_rfl
theorem aWe:((match Tryz.prog.underlying 88 with | some (.struct f)=>f | _=>#[]):Array Field).toList.map (fun f=>(Tryz.prog.info? f.type).map fun i=>(f.offset,i.size))=[(0,1),(1,1),(2,1),(3,1),(4,4)].map some:=by kernel_rfl
theorem aVv:((match Tryz.prog.underlying 90 with | some (.struct f)=>f | _=>#[]):Array Field).toList.map (fun f=>(Tryz.prog.info? f.type).map fun i=>(f.offset,i.size))=[(0,1),(1,1)].map some:=by kernel_rfl
theorem aRb:((match Tryz.prog.underlying 98 with | some (.struct f)=>f | _=>#[]):Array Field).toList.map (fun f=>(Tryz.prog.info? f.type).map fun i=>(f.offset,i.size))=[(0,1),(1,1)].map some:=by kernel_rfl
theorem aTk:Jf Tryz.prog 115 177 7 80:=Jf.mk' (z:=(.agg #[.int .i64 0,.int .i64 0,.int .i64 0,.string ⟨#[]⟩,.int .i64 0,.int .i64 0,.slice none 0 0])) (by kernel_rfl) (by kernel_rfl) rfl (by decide) (by decide)
theorem mS:Jf Tryz.prog 127 126 1 4:=Jf.mk' (z:=(.int .u32 0)) (by kernel_rfl) (by kernel_rfl) rfl (by decide) (by decide)
theorem aDu:Jf Tryz.prog 136 3 1 8:=Jf.mk' (z:=(.int .i64 0)) (by kernel_rfl) (by kernel_rfl) rfl (by decide) (by decide)
theorem aK2:Jf Tryz.prog 164 141 2 16:=Jf.mk' (z:=(.agg #[.int .i64 0,.int .i64 0])) (by kernel_rfl) (by kernel_rfl) rfl (by decide) (by decide)
theorem aS5:Jf Tryz.prog 175 146 2 16:=Jf.mk' (z:=(.agg #[.int .i64 0,.int .i64 0])) (by kernel_rfl) (by kernel_rfl) rfl (by decide) (by decide)
theorem aDn:Jf Tryz.prog 186 190 4 48:=Jf.mk' (z:=(.agg #[.int .i64 0,.int .i64 0,.int .i64 0,.slice none 0 0])) (by kernel_rfl) (by kernel_rfl) rfl (by decide) (by decide)
theorem Pz:Jf Tryz.prog 219 5 1 1:=Jf.mk' (z:=(.int .u8 0)) (by kernel_rfl) (by kernel_rfl) rfl (by decide) (by decide)
theorem Hz:Jf Tryz.prog 22 3 1 8:=Jf.mk' (z:=(.int .i64 0)) (by kernel_rfl) (by kernel_rfl) rfl (by decide) (by decide)
theorem aK8:Jf Tryz.prog 232 234 3 24:=Jf.mk' (z:=(.agg #[.int .i64 0,.int .i64 0,.bool false])) (by kernel_rfl) (by kernel_rfl) rfl (by decide) (by decide)
theorem aSj:Jf Tryz.prog 235 234 3 24:=Jf.mk' (z:=(.agg #[.int .i64 0,.int .i64 0,.bool false])) (by kernel_rfl) (by kernel_rfl) rfl (by decide) (by decide)
theorem aRq:Jf Tryz.prog 236 234 3 24:=Jf.mk' (z:=(.agg #[.int .i64 0,.int .i64 0,.bool false])) (by kernel_rfl) (by kernel_rfl) rfl (by decide) (by decide)
theorem aKj:Jf Tryz.prog 259 201 12 104:=Jf.mk' (z:=(.agg #[.int .i64 0,.string ⟨#[]⟩,.int .i64 0,.int .i64 0,.int .i64 0,.int .i64 0,.int .i64 0,.int .i64 0,.int .i64 0,.int .i64 0,.int .i64 0,.int .i64 0])) (by kernel_rfl) (by kernel_rfl) rfl (by decide) (by decide)
theorem aGj:Jf Tryz.prog 27 83 9 144:=Jf.mk' (z:=(.agg #[.string ⟨#[]⟩,.int .i64 0,.int .i64 0,.slice none 0 0,.bool false,.slice none 0 0,.slice none 0 0,.slice none 0 0,.bool false])) (by kernel_rfl) (by kernel_rfl) rfl (by decide) (by decide)
theorem Y3:Jf Tryz.prog 274 276 4 64:=Jf.mk' (z:=(.agg #[.int .i64 0,.slice none 0 0,.bool false,.slice none 0 0])) (by kernel_rfl) (by kernel_rfl) rfl (by decide) (by decide)
theorem aCq:Jf Tryz.prog 28 98 2 16:=Jf.mk' (z:=(.agg #[.int .i64 0,.int .i64 0])) (by kernel_rfl) (by kernel_rfl) rfl (by decide) (by decide)
theorem aHa:Jf Tryz.prog 29 47 5 64:=Jf.mk' (z:=(.agg #[.string ⟨#[]⟩,.int .i64 0,.int .i64 0,.slice none 0 0,.int .i64 0])) (by kernel_rfl) (by kernel_rfl) rfl (by decide) (by decide)
theorem aLh:Jf Tryz.prog 323 322 2 24:=Jf.mk' (z:=(.agg #[.string ⟨#[]⟩,.int .i64 0])) (by kernel_rfl) (by kernel_rfl) rfl (by decide) (by decide)
theorem aS9:Jf Tryz.prog 36 35 6 48:=Jf.mk' (z:=(.agg #[.bool false,.int .i64 0,.int .i64 0,.int .i64 0,.int .i64 0,.int .i64 0])) (by kernel_rfl) (by kernel_rfl) rfl (by decide) (by decide)
theorem aWa:Jf Tryz.prog 37 227 2 16:=Jf.mk' (z:=(.agg #[.int .i64 0,.int .i64 0])) (by kernel_rfl) (by kernel_rfl) rfl (by decide) (by decide)
theorem wG:Jf Tryz.prog 43 52 3 24:=Jf.mk' (z:=(.agg #[.int .i64 0,.int .i64 0,.int .i64 0])) (by kernel_rfl) (by kernel_rfl) rfl (by decide) (by decide)
theorem aJb:Jf Tryz.prog 50 49 2 16:=Jf.mk' (z:=(.agg #[.int .i64 0,.int .i64 0])) (by kernel_rfl) (by kernel_rfl) rfl (by decide) (by decide)
theorem aDh:Jf Tryz.prog 57 64 3 24:=Jf.mk' (z:=(.agg #[.int .i64 0,.int .i64 0,.int .i64 0])) (by kernel_rfl) (by kernel_rfl) rfl (by decide) (by decide)
theorem aHt:Jf Tryz.prog 67 136 1 24:=Jf.mk' (z:=(.slice none 0 0)) (by kernel_rfl) (by kernel_rfl) rfl (by decide) (by decide)
theorem aTw:Jf Tryz.prog 72 71 2 16:=Jf.mk' (z:=(.agg #[.int .i64 0,.int .i64 0])) (by kernel_rfl) (by kernel_rfl) rfl (by decide) (by decide)
theorem aUe:Jf Tryz.prog 75 143 3 40:=Jf.mk' (z:=(.agg #[.int .i64 0,.int .i64 0,.slice none 0 0])) (by kernel_rfl) (by kernel_rfl) rfl (by decide) (by decide)
theorem aOu:Jf Tryz.prog 81 86 4 48:=Jf.mk' (z:=(.agg #[.int .i64 0,.int .i64 0,.int .i64 0,.slice none 0 0])) (by kernel_rfl) (by kernel_rfl) rfl (by decide) (by decide)
theorem aN6:Jf Tryz.prog 84 148 15 152:=Jf.mk' (z:=(.agg #[.int .i64 0,.string ⟨#[]⟩,.string ⟨#[]⟩,.int .i64 0,.int .i64 0,.int .i64 0,.int .i64 0,.int .i64 0,.int .i64 0,.int .i64 0,.bool false,.int .i64 0,.slice none 0 0,.int .i64 0,.int .i64 0])) (by kernel_rfl) (by kernel_rfl) rfl (by decide) (by decide)
theorem eE:Jf Tryz.prog 91 9 1 16:=Jf.mk' (z:=(.string ⟨#[]⟩)) (by kernel_rfl) (by kernel_rfl) rfl (by decide) (by decide)
theorem aTo:Jf Tryz.prog 93 22 1 24:=Jf.mk' (z:=(.slice none 0 0)) (by kernel_rfl) (by kernel_rfl) rfl (by decide) (by decide)
theorem aT7:Ty Tryz.prog 115 false 1:=⟨by kernel_rfl,by kernel_rfl⟩
theorem aSk:Ty Tryz.prog 117 true 9:=⟨by kernel_rfl,by kernel_rfl⟩
theorem aRw:Ty Tryz.prog 122 false 1:=⟨by kernel_rfl,by kernel_rfl⟩
theorem Ps:Ty Tryz.prog 126 false 1:=⟨by kernel_rfl,by kernel_rfl⟩
theorem aT9:Ty Tryz.prog 127 false 1:=⟨by kernel_rfl,by kernel_rfl⟩
theorem aUc:Ty Tryz.prog 128 false 1:=⟨by kernel_rfl,by kernel_rfl⟩
theorem aQj:Ty Tryz.prog 136 false 1:=⟨by kernel_rfl,by kernel_rfl⟩
theorem aQ0:Ty Tryz.prog 141 true 2:=⟨by kernel_rfl,by kernel_rfl⟩
theorem aR6:Ty Tryz.prog 143 true 3:=⟨by kernel_rfl,by kernel_rfl⟩
theorem aSg:Ty Tryz.prog 146 true 2:=⟨by kernel_rfl,by kernel_rfl⟩
theorem aQg:Ty Tryz.prog 148 true 15:=⟨by kernel_rfl,by kernel_rfl⟩
theorem qS:Ty Tryz.prog 164 false 1:=⟨by kernel_rfl,by kernel_rfl⟩
theorem aTs:Ty Tryz.prog 175 false 1:=⟨by kernel_rfl,by kernel_rfl⟩
theorem aR5:Ty Tryz.prog 177 true 7:=⟨by kernel_rfl,by kernel_rfl⟩
theorem aC8:Ty Tryz.prog 181 true 2:=⟨by kernel_rfl,by kernel_rfl⟩
theorem aTl:Ty Tryz.prog 186 false 1:=⟨by kernel_rfl,by kernel_rfl⟩
theorem aRu:Ty Tryz.prog 190 true 4:=⟨by kernel_rfl,by kernel_rfl⟩
theorem aQk:Ty Tryz.prog 201 true 12:=⟨by kernel_rfl,by kernel_rfl⟩
theorem aRy:Ty Tryz.prog 219 false 1:=⟨by kernel_rfl,by kernel_rfl⟩
theorem iT:Ty Tryz.prog 22 false 1:=⟨by kernel_rfl,by kernel_rfl⟩
theorem aQe:Ty Tryz.prog 227 true 2:=⟨by kernel_rfl,by kernel_rfl⟩
theorem aUh:Ty Tryz.prog 234 true 3:=⟨by kernel_rfl,by kernel_rfl⟩
theorem aVh:Ty Tryz.prog 27 false 1:=⟨by kernel_rfl,by kernel_rfl⟩
theorem aT4:Ty Tryz.prog 274 false 1:=⟨by kernel_rfl,by kernel_rfl⟩
theorem Z7:Ty Tryz.prog 276 true 4:=⟨by kernel_rfl,by kernel_rfl⟩
theorem aVx:Ty Tryz.prog 28 false 1:=⟨by kernel_rfl,by kernel_rfl⟩
theorem aK9:Ty Tryz.prog 281 true 5:=⟨by kernel_rfl,by kernel_rfl⟩
theorem aWn:Ty Tryz.prog 29 false 1:=⟨by kernel_rfl,by kernel_rfl⟩
theorem aRk:Ty Tryz.prog 290 true 11:=⟨by kernel_rfl,by kernel_rfl⟩
theorem Z4:Ty Tryz.prog 3 false 1:=⟨by kernel_rfl,by kernel_rfl⟩
theorem aUz:Ty Tryz.prog 31 true 3:=⟨by kernel_rfl,by kernel_rfl⟩
theorem aTz:Ty Tryz.prog 333 true 115:=⟨by kernel_rfl,by kernel_rfl⟩
theorem aKo:Ty Tryz.prog 335 true 2:=⟨by kernel_rfl,by kernel_rfl⟩
theorem aWl:Ty Tryz.prog 35 true 6:=⟨by kernel_rfl,by kernel_rfl⟩
theorem aMx:Ty Tryz.prog 36 false 1:=⟨by kernel_rfl,by kernel_rfl⟩
theorem aVr:Ty Tryz.prog 37 false 1:=⟨by kernel_rfl,by kernel_rfl⟩
theorem aWv:Ty Tryz.prog 39 true 2:=⟨by kernel_rfl,by kernel_rfl⟩
theorem ty4:Ty Tryz.prog 4 false 1:=⟨by kernel_rfl,by kernel_rfl⟩
theorem aDg:Ty Tryz.prog 40 false 1:=⟨by kernel_rfl,by kernel_rfl⟩
theorem aXa:Ty Tryz.prog 43 false 1:=⟨by kernel_rfl,by kernel_rfl⟩
theorem aWw:Ty Tryz.prog 47 true 5:=⟨by kernel_rfl,by kernel_rfl⟩
theorem aO1:Ty Tryz.prog 49 true 2:=⟨by kernel_rfl,by kernel_rfl⟩
theorem ty5:Ty Tryz.prog 5 false 1:=⟨by kernel_rfl,by kernel_rfl⟩
theorem aVu:Ty Tryz.prog 52 true 3:=⟨by kernel_rfl,by kernel_rfl⟩
theorem aWb:Ty Tryz.prog 61 true 2:=⟨by kernel_rfl,by kernel_rfl⟩
theorem aUw:Ty Tryz.prog 64 true 3:=⟨by kernel_rfl,by kernel_rfl⟩
theorem aWm:Ty Tryz.prog 71 true 2:=⟨by kernel_rfl,by kernel_rfl⟩
theorem aO4:Ty Tryz.prog 75 false 1:=⟨by kernel_rfl,by kernel_rfl⟩
theorem aSf:Ty Tryz.prog 77 true 3:=⟨by kernel_rfl,by kernel_rfl⟩
theorem aWo:Ty Tryz.prog 81 false 1:=⟨by kernel_rfl,by kernel_rfl⟩
theorem aPi:Ty Tryz.prog 83 true 9:=⟨by kernel_rfl,by kernel_rfl⟩
theorem aVn:Ty Tryz.prog 84 false 1:=⟨by kernel_rfl,by kernel_rfl⟩
theorem aU4:Ty Tryz.prog 86 true 4:=⟨by kernel_rfl,by kernel_rfl⟩
theorem ty9:Ty Tryz.prog 9 false 1:=⟨by kernel_rfl,by kernel_rfl⟩
theorem aT5:Ty Tryz.prog 91 false 1:=⟨by kernel_rfl,by kernel_rfl⟩
theorem aDk:Ty Tryz.prog 94 false 1:=⟨by kernel_rfl,by kernel_rfl⟩
theorem aVg:Ty Tryz.prog 98 true 2:=⟨by kernel_rfl,by kernel_rfl⟩
theorem aT3:Zt Tryz.prog 117 [.slice none 0 0,.slice none 0 0,.slice none 0 0,.slice none 0 0,.slice none 0 0,.slice none 0 0,.slice none 0 0,.int .i64 0,.int .i64 0]:=⟨(.agg #[.slice none 0 0,.slice none 0 0,.slice none 0 0,.slice none 0 0,.slice none 0 0,.slice none 0 0,.slice none 0 0,.int .i64 0,.int .i64 0]),by kernel_rfl,rfl,by decide⟩
theorem aVm:Zt Tryz.prog 122 [.pointer none]:=⟨(.pointer none),by kernel_rfl,rfl,by decide⟩
theorem aFf:Zt Tryz.prog 126 [.int .u32 0]:=⟨(.int .u32 0),by kernel_rfl,rfl,by decide⟩
theorem aW7:Zt Tryz.prog 127 [.slice none 0 0]:=⟨(.slice none 0 0),by kernel_rfl,rfl,by decide⟩
theorem aWu:Zt Tryz.prog 128 [.map none]:=⟨(.map none),by kernel_rfl,rfl,by decide⟩
theorem aPu:Zt Tryz.prog 136 [.slice none 0 0]:=⟨(.slice none 0 0),by kernel_rfl,rfl,by decide⟩
theorem aIr:Zt Tryz.prog 141 [.int .i64 0,.int .i64 0]:=⟨(.agg #[.int .i64 0,.int .i64 0]),by kernel_rfl,rfl,by decide⟩
theorem aLo:Zt Tryz.prog 143 [.int .i64 0,.int .i64 0,.slice none 0 0]:=⟨(.agg #[.int .i64 0,.int .i64 0,.slice none 0 0]),by kernel_rfl,rfl,by decide⟩
theorem aHv:Zt Tryz.prog 146 [.int .i64 0,.int .i64 0]:=⟨(.agg #[.int .i64 0,.int .i64 0]),by kernel_rfl,rfl,by decide⟩
theorem aBn:Zt Tryz.prog 148 [.int .i64 0,.string ⟨#[]⟩,.string ⟨#[]⟩,.int .i64 0,.int .i64 0,.int .i64 0,.int .i64 0,.int .i64 0,.int .i64 0,.int .i64 0,.bool false,.int .i64 0,.slice none 0 0,.int .i64 0,.int .i64 0]:=⟨(.agg #[.int .i64 0,.string ⟨#[]⟩,.string ⟨#[]⟩,.int .i64 0,.int .i64 0,.int .i64 0,.int .i64 0,.int .i64 0,.int .i64 0,.int .i64 0,.bool false,.int .i64 0,.slice none 0 0,.int .i64 0,.int .i64 0]),by kernel_rfl,rfl,by decide⟩
theorem aWq:Zt Tryz.prog 177 [.int .i64 0,.int .i64 0,.int .i64 0,.string ⟨#[]⟩,.int .i64 0,.int .i64 0,.slice none 0 0]:=⟨(.agg #[.int .i64 0,.int .i64 0,.int .i64 0,.string ⟨#[]⟩,.int .i64 0,.int .i64 0,.slice none 0 0]),by kernel_rfl,rfl,by decide⟩
theorem kV:Zt Tryz.prog 181 [.int .i64 0,.int .i64 0]:=⟨(.agg #[.int .i64 0,.int .i64 0]),by kernel_rfl,rfl,by decide⟩
theorem aWi:Zt Tryz.prog 186 [.slice none 0 0]:=⟨(.slice none 0 0),by kernel_rfl,rfl,by decide⟩
theorem aHb:Zt Tryz.prog 190 [.int .i64 0,.int .i64 0,.int .i64 0,.slice none 0 0]:=⟨(.agg #[.int .i64 0,.int .i64 0,.int .i64 0,.slice none 0 0]),by kernel_rfl,rfl,by decide⟩
theorem V3:Zt Tryz.prog 201 [.int .i64 0,.string ⟨#[]⟩,.int .i64 0,.int .i64 0,.int .i64 0,.int .i64 0,.int .i64 0,.int .i64 0,.int .i64 0,.int .i64 0,.int .i64 0,.int .i64 0]:=⟨(.agg #[.int .i64 0,.string ⟨#[]⟩,.int .i64 0,.int .i64 0,.int .i64 0,.int .i64 0,.int .i64 0,.int .i64 0,.int .i64 0,.int .i64 0,.int .i64 0,.int .i64 0]),by kernel_rfl,rfl,by decide⟩
theorem aRj:Zt Tryz.prog 208 [.int .i64 0,.slice none 0 0,.slice none 0 0]:=⟨(.agg #[.int .i64 0,.slice none 0 0,.slice none 0 0]),by kernel_rfl,rfl,by decide⟩
theorem z22:Zt Tryz.prog 22 [.slice none 0 0]:=⟨(.slice none 0 0),by kernel_rfl,rfl,by decide⟩
theorem aMn:Zt Tryz.prog 234 [.int .i64 0,.int .i64 0,.bool false]:=⟨(.agg #[.int .i64 0,.int .i64 0,.bool false]),by kernel_rfl,rfl,by decide⟩
theorem aRm:Zt Tryz.prog 258 [.slice none 0 0]:=⟨(.agg #[.slice none 0 0]),by kernel_rfl,rfl,by decide⟩
theorem Vf:Zt Tryz.prog 276 [.int .i64 0,.slice none 0 0,.bool false,.slice none 0 0]:=⟨(.agg #[.int .i64 0,.slice none 0 0,.bool false,.slice none 0 0]),by kernel_rfl,rfl,by decide⟩
theorem S1:Zt Tryz.prog 281 [.string ⟨#[]⟩,.int .i64 0,.int .i64 0,.slice none 0 0,.slice none 0 0]:=⟨(.agg #[.string ⟨#[]⟩,.int .i64 0,.int .i64 0,.slice none 0 0,.slice none 0 0]),by kernel_rfl,rfl,by decide⟩
theorem aQ6:Zt Tryz.prog 290 [.string ⟨#[]⟩,.int .i64 0,.int .i64 0,.slice none 0 0,.bool false,.slice none 0 0,.slice none 0 0,.slice none 0 0,.bool false,.int .i64 0,.slice none 0 0]:=⟨(.agg #[.string ⟨#[]⟩,.int .i64 0,.int .i64 0,.slice none 0 0,.bool false,.slice none 0 0,.slice none 0 0,.slice none 0 0,.bool false,.int .i64 0,.slice none 0 0]),by kernel_rfl,rfl,by decide⟩
theorem z3:Zt Tryz.prog 3 [.int .i64 0]:=⟨(.int .i64 0),by kernel_rfl,rfl,by decide⟩
theorem z31:Zt Tryz.prog 31 [.slice none 0 0,.slice none 0 0,.slice none 0 0]:=⟨(.agg #[.slice none 0 0,.slice none 0 0,.slice none 0 0]),by kernel_rfl,rfl,by decide⟩
theorem Se:Zt Tryz.prog 322 [.string ⟨#[]⟩,.int .i64 0]:=⟨(.agg #[.string ⟨#[]⟩,.int .i64 0]),by kernel_rfl,rfl,by decide⟩
theorem aTc:Zt Tryz.prog 333 [.string ⟨#[]⟩,.int .i64 0,.int .i64 0,.slice none 0 0,.slice none 0 0,.string ⟨#[]⟩,.int .i64 0,.int .i64 0,.slice none 0 0,.slice none 0 0,.string ⟨#[]⟩,.int .i64 0,.int .i64 0,.slice none 0 0,.slice none 0 0,.string ⟨#[]⟩,.int .i64 0,.int .i64 0,.slice none 0 0,.slice none 0 0,.string ⟨#[]⟩,.int .i64 0,.int .i64 0,.slice none 0 0,.slice none 0 0,.string ⟨#[]⟩,.int .i64 0,.int .i64 0,.slice none 0 0,.slice none 0 0,.string ⟨#[]⟩,.int .i64 0,.int .i64 0,.slice none 0 0,.slice none 0 0,.string ⟨#[]⟩,.int .i64 0,.int .i64 0,.slice none 0 0,.slice none 0 0,.string ⟨#[]⟩,.int .i64 0,.int .i64 0,.slice none 0 0,.slice none 0 0,.string ⟨#[]⟩,.int .i64 0,.int .i64 0,.slice none 0 0,.slice none 0 0,.string ⟨#[]⟩,.int .i64 0,.int .i64 0,.slice none 0 0,.slice none 0 0,.string ⟨#[]⟩,.int .i64 0,.int .i64 0,.slice none 0 0,.slice none 0 0,.string ⟨#[]⟩,.int .i64 0,.int .i64 0,.slice none 0 0,.slice none 0 0,.string ⟨#[]⟩,.int .i64 0,.int .i64 0,.slice none 0 0,.slice none 0 0,.string ⟨#[]⟩,.int .i64 0,.int .i64 0,.slice none 0 0,.slice none 0 0,.string ⟨#[]⟩,.int .i64 0,.int .i64 0,.slice none 0 0,.slice none 0 0,.string ⟨#[]⟩,.int .i64 0,.int .i64 0,.slice none 0 0,.slice none 0 0,.string ⟨#[]⟩,.int .i64 0,.int .i64 0,.slice none 0 0,.slice none 0 0,.string ⟨#[]⟩,.int .i64 0,.int .i64 0,.slice none 0 0,.slice none 0 0,.string ⟨#[]⟩,.int .i64 0,.int .i64 0,.slice none 0 0,.slice none 0 0,.string ⟨#[]⟩,.int .i64 0,.int .i64 0,.slice none 0 0,.slice none 0 0,.string ⟨#[]⟩,.int .i64 0,.int .i64 0,.slice none 0 0,.slice none 0 0,.string ⟨#[]⟩,.int .i64 0,.int .i64 0,.slice none 0 0,.slice none 0 0]:=⟨(.agg #[.string ⟨#[]⟩,.int .i64 0,.int .i64 0,.slice none 0 0,.slice none 0 0,.string ⟨#[]⟩,.int .i64 0,.int .i64 0,.slice none 0 0,.slice none 0 0,.string ⟨#[]⟩,.int .i64 0,.int .i64 0,.slice none 0 0,.slice none 0 0,.string ⟨#[]⟩,.int .i64 0,.int .i64 0,.slice none 0 0,.slice none 0 0,.string ⟨#[]⟩,.int .i64 0,.int .i64 0,.slice none 0 0,.slice none 0 0,.string ⟨#[]⟩,.int .i64 0,.int .i64 0,.slice none 0 0,.slice none 0 0,.string ⟨#[]⟩,.int .i64 0,.int .i64 0,.slice none 0 0,.slice none 0 0,.string ⟨#[]⟩,.int .i64 0,.int .i64 0,.slice none 0 0,.slice none 0 0,.string ⟨#[]⟩,.int .i64 0,.int .i64 0,.slice none 0 0,.slice none 0 0,.string ⟨#[]⟩,.int .i64 0,.int .i64 0,.slice none 0 0,.slice none 0 0,.string ⟨#[]⟩,.int .i64 0,.int .i64 0,.slice none 0 0,.slice none 0 0,.string ⟨#[]⟩,.int .i64 0,.int .i64 0,.slice none 0 0,.slice none 0 0,.string ⟨#[]⟩,.int .i64 0,.int .i64 0,.slice none 0 0,.slice none 0 0,.string ⟨#[]⟩,.int .i64 0,.int .i64 0,.slice none 0 0,.slice none 0 0,.string ⟨#[]⟩,.int .i64 0,.int .i64 0,.slice none 0 0,.slice none 0 0,.string ⟨#[]⟩,.int .i64 0,.int .i64 0,.slice none 0 0,.slice none 0 0,.string ⟨#[]⟩,.int .i64 0,.int .i64 0,.slice none 0 0,.slice none 0 0,.string ⟨#[]⟩,.int .i64 0,.int .i64 0,.slice none 0 0,.slice none 0 0,.string ⟨#[]⟩,.int .i64 0,.int .i64 0,.slice none 0 0,.slice none 0 0,.string ⟨#[]⟩,.int .i64 0,.int .i64 0,.slice none 0 0,.slice none 0 0,.string ⟨#[]⟩,.int .i64 0,.int .i64 0,.slice none 0 0,.slice none 0 0,.string ⟨#[]⟩,.int .i64 0,.int .i64 0,.slice none 0 0,.slice none 0 0,.string ⟨#[]⟩,.int .i64 0,.int .i64 0,.slice none 0 0,.slice none 0 0]),by kernel_rfl,rfl,by decide⟩
theorem aAi:Zt Tryz.prog 335 [.int .i64 0,.int .i64 0]:=⟨(.agg #[.int .i64 0,.int .i64 0]),by kernel_rfl,rfl,by decide⟩
theorem aRz:Zt Tryz.prog 336 [.int .i64 0,.int .i64 0,.int .i64 0,.int .i64 0,.int .i64 0,.int .i64 0,.int .i64 0,.int .i64 0,.int .i64 0,.int .i64 0]:=⟨(.agg #[.int .i64 0,.int .i64 0,.int .i64 0,.int .i64 0,.int .i64 0,.int .i64 0,.int .i64 0,.int .i64 0,.int .i64 0,.int .i64 0]),by kernel_rfl,rfl,by decide⟩
theorem aQ4:Zt Tryz.prog 343 [.int .i64 0,.int .i64 0]:=⟨(.agg #[.int .i64 0,.int .i64 0]),by kernel_rfl,rfl,by decide⟩
theorem aTd:Zt Tryz.prog 345 [.int .i64 0,.int .i64 0,.int .i64 0]:=⟨(.agg #[.int .i64 0,.int .i64 0,.int .i64 0]),by kernel_rfl,rfl,by decide⟩
theorem z35:Zt Tryz.prog 35 [.bool false,.int .i64 0,.int .i64 0,.int .i64 0,.int .i64 0,.int .i64 0]:=⟨(.agg #[.bool false,.int .i64 0,.int .i64 0,.int .i64 0,.int .i64 0,.int .i64 0]),by kernel_rfl,rfl,by decide⟩
theorem z39:Zt Tryz.prog 39 [.slice none 0 0,.slice none 0 0]:=⟨(.agg #[.slice none 0 0,.slice none 0 0]),by kernel_rfl,rfl,by decide⟩
theorem z40:Zt Tryz.prog 40 [.int .i64 0]:=⟨(.int .i64 0),by kernel_rfl,rfl,by decide⟩
theorem z47:Zt Tryz.prog 47 [.string ⟨#[]⟩,.int .i64 0,.int .i64 0,.slice none 0 0,.int .i64 0]:=⟨(.agg #[.string ⟨#[]⟩,.int .i64 0,.int .i64 0,.slice none 0 0,.int .i64 0]),by kernel_rfl,rfl,by decide⟩
theorem tL:Zt Tryz.prog 49 [.int .i64 0,.int .i64 0]:=⟨(.agg #[.int .i64 0,.int .i64 0]),by kernel_rfl,rfl,by decide⟩
theorem z5:Zt Tryz.prog 5 [.int .u8 0]:=⟨(.int .u8 0),by kernel_rfl,rfl,by decide⟩
theorem z52:Zt Tryz.prog 52 [.int .i64 0,.int .i64 0,.int .i64 0]:=⟨(.agg #[.int .i64 0,.int .i64 0,.int .i64 0]),by kernel_rfl,rfl,by decide⟩
theorem z56:Zt Tryz.prog 56 [.int .i64 0,.int .i64 0,.int .i64 0,.int .i64 0]:=⟨(.agg #[.int .i64 0,.int .i64 0,.int .i64 0,.int .i64 0]),by kernel_rfl,rfl,by decide⟩
theorem z61:Zt Tryz.prog 61 [.slice none 0 0,.int .i64 0]:=⟨(.agg #[.slice none 0 0,.int .i64 0]),by kernel_rfl,rfl,by decide⟩
theorem z64:Zt Tryz.prog 64 [.int .i64 0,.int .i64 0,.int .i64 0]:=⟨(.agg #[.int .i64 0,.int .i64 0,.int .i64 0]),by kernel_rfl,rfl,by decide⟩
theorem z71:Zt Tryz.prog 71 [.int .i64 0,.int .i64 0]:=⟨(.agg #[.int .i64 0,.int .i64 0]),by kernel_rfl,rfl,by decide⟩
theorem z77:Zt Tryz.prog 77 [.slice none 0 0,.slice none 0 0,.slice none 0 0]:=⟨(.agg #[.slice none 0 0,.slice none 0 0,.slice none 0 0]),by kernel_rfl,rfl,by decide⟩
theorem z83:Zt Tryz.prog 83 [.string ⟨#[]⟩,.int .i64 0,.int .i64 0,.slice none 0 0,.bool false,.slice none 0 0,.slice none 0 0,.slice none 0 0,.bool false]:=⟨(.agg #[.string ⟨#[]⟩,.int .i64 0,.int .i64 0,.slice none 0 0,.bool false,.slice none 0 0,.slice none 0 0,.slice none 0 0,.bool false]),by kernel_rfl,rfl,by decide⟩
theorem z86:Zt Tryz.prog 86 [.int .i64 0,.int .i64 0,.int .i64 0,.slice none 0 0]:=⟨(.agg #[.int .i64 0,.int .i64 0,.int .i64 0,.slice none 0 0]),by kernel_rfl,rfl,by decide⟩
theorem z88:Zt Tryz.prog 88 [.int .i64 0,.int .i64 0,.int .i64 0,.int .i64 0,.int .i64 0,.int .i64 0,.int .i64 0,.slice none 0 0]:=⟨(.agg #[.int .i64 0,.int .i64 0,.int .i64 0,.int .i64 0,.int .i64 0,.int .i64 0,.int .i64 0,.slice none 0 0]),by kernel_rfl,rfl,by decide⟩
theorem z9:Zt Tryz.prog 9 [.string ⟨#[]⟩]:=⟨(.string ⟨#[]⟩),by kernel_rfl,rfl,by decide⟩
theorem z90:Zt Tryz.prog 90 [.slice none 0 0,.int .i64 0]:=⟨(.agg #[.slice none 0 0,.int .i64 0]),by kernel_rfl,rfl,by decide⟩
theorem z94:Zt Tryz.prog 94 [.nilFunc]:=⟨(.nilFunc),by kernel_rfl,rfl,by decide⟩
theorem z98:Zt Tryz.prog 98 [.int .i64 0,.int .i64 0]:=⟨(.agg #[.int .i64 0,.int .i64 0]),by kernel_rfl,rfl,by decide⟩
theorem bV:Jk Tryz.prog 20 126=[none]:=by kernel_rfl
theorem aLd:Jk Tryz.prog 20 136=[some 1]:=by kernel_rfl
theorem aRx:Jk Tryz.prog 20 141=[none,none]:=by kernel_rfl
theorem aTh:Jk Tryz.prog 20 143=[none,none,some 1]:=by kernel_rfl
theorem aKg:Jk Tryz.prog 20 148=[none,none,none,none,none,none,none,none,none,none,none,none,some 1,none,none]:=by kernel_rfl
theorem yC:Jk Tryz.prog 20 190=[none,none,none,some 1]:=by kernel_rfl
theorem aTu:Jk Tryz.prog 20 201=[none,none,none,none,none,none,none,none,none,none,none,none]:=by kernel_rfl
theorem aU0:Jk Tryz.prog 20 22=[some 1]:=by kernel_rfl
theorem aQs:Jk Tryz.prog 20 234=[none,none,none]:=by kernel_rfl
theorem bO:Jk Tryz.prog 20 276=[none,some 1,none,some 4]:=by kernel_rfl
theorem Pp:Jk Tryz.prog 20 3=[none]:=by kernel_rfl
theorem aQv:Jk Tryz.prog 20 322=[none,none]:=by kernel_rfl
theorem aWj:Jk Tryz.prog 20 35=[none,none,none,none,none,none]:=by kernel_rfl
theorem aPm:Jk Tryz.prog 20 47=[none,none,none,some 3,none]:=by kernel_rfl
theorem aNx:Jk Tryz.prog 20 49=[none,none]:=by kernel_rfl
theorem nT:Jk Tryz.prog 20 5=[none]:=by kernel_rfl
theorem yQ:Jk Tryz.prog 20 52=[none,none,none]:=by kernel_rfl
theorem aHh:Jk Tryz.prog 20 64=[none,none,none]:=by kernel_rfl
theorem aV1:Jk Tryz.prog 20 71=[none,none]:=by kernel_rfl
theorem aRg:Jk Tryz.prog 20 83=[none,none,none,some 1,none,some 4,some 1,some 1,none]:=by kernel_rfl
theorem aN2:Jk Tryz.prog 20 86=[none,none,none,some 15]:=by kernel_rfl
theorem ck9:Jk Tryz.prog 20 9=[none]:=by kernel_rfl
theorem aVi:Jk Tryz.prog 20 91=[some 1]:=by kernel_rfl
theorem aNd:Jk Tryz.prog 20 98=[none,none]:=by kernel_rfl
theorem aV9 (s:ByteArray) (c:UInt8) (w:World):(callFunc 277 [.string s,.int .u8 (c.toNat:Int)].toArray).run Tryz.prog w=.ok (.value (.int .i64 (pH s c))) w:=aBi Tryz.func277 rfl rfl (by kernel_rfl) (by kernel_rfl) s c w
theorem aQy:Tryz.prog.eqGuardType Tryz.prog.depth 146=false:=by kernel_rfl
theorem aQu:Tryz.prog.underlying 146=some (.struct (Tryz.prog.fieldsOf 146)):=by kernel_rfl
theorem aQ5:Tryz.prog.stoodInHeld 146=false:=by kernel_rfl
theorem aQt (x y:E9) (w:World):(Op.equalIn 10000 146 (.agg #[.int .i64 x.Key,.int .i64 x.Sum]) (.agg #[.int .i64 y.Key,.int .i64 y.Sum])).run Tryz.prog w=.ok (decide (x=y)) w:=by
 have u3:=Tryz.underlying3
 have a3:=Tryz.isAgg3
 have z3:=Tryz.sizeOf3
 rw [show (10000:Nat)=9999 + 1 from rfl,run_equalIn_agg w 9999 146 _ _ aQu aQ5]
 simp only [Program.fieldsOf,Tryz.underlying146]
 go_simp
 rcases x with ⟨x0,x1⟩
 rcases y with ⟨y0,y1⟩
 by_cases h0:x0=y0 <;> by_cases h1:x1=y1 <;> simp [h0,h1]
theorem tB (x y:E9) {X Y:Operand} {tk:Nat} {yt ty:TypeId} {b1 b2:Option LB}:Ha Tryz.prog tk (.binOp .eql 146 X Y yt) ty [(.agg [.val (.int .i64 x.Key),.val (.int .i64 x.Sum)],b1),(.agg [.val (.int .i64 y.Key),.val (.int .i64 y.Sum)],b2)] [] (v0 (.val (.bool (decide (x=y))))):=
 .binOpA rfl rfl (fun _ _=>rfl) (fun w=>by
  rw [Sem.run_bind,run_eqGuard_agg w _ 146 X Y _ _ aQy]
  simp only [Result.andThen_ok,run_eql_struct]
  exact congrArg (fun r=>Result.andThen r _) (aQt x y w))
theorem aLj:Tryz.prog.eqGuardType Tryz.prog.depth 181=false:=by kernel_rfl
theorem aQm:Tryz.prog.underlying 181=some (.struct (Tryz.prog.fieldsOf 181)):=by kernel_rfl
theorem aSq:Tryz.prog.stoodInHeld 181=false:=by kernel_rfl
theorem aK6 (x y:C8) (w:World):(Op.equalIn 10000 181 (.agg #[.int .i64 x.Version,.int .i64 x.Suite]) (.agg #[.int .i64 y.Version,.int .i64 y.Suite])).run Tryz.prog w=.ok (decide (x=y)) w:=by
 have u3:=Tryz.underlying3
 have a3:=Tryz.isAgg3
 have z3:=Tryz.sizeOf3
 rw [show (10000:Nat)=9999 + 1 from rfl,run_equalIn_agg w 9999 181 _ _ aQm aSq]
 simp only [Program.fieldsOf,Tryz.underlying181]
 go_simp
 rcases x with ⟨x0,x1⟩
 rcases y with ⟨y0,y1⟩
 by_cases h0:x0=y0 <;> by_cases h1:x1=y1 <;> simp [h0,h1]
theorem sZ (x y:C8) {X Y:Operand} {tk:Nat} {yt ty:TypeId} {b1 b2:Option LB}:Ha Tryz.prog tk (.binOp .eql 181 X Y yt) ty [(.agg [.val (.int .i64 x.Version),.val (.int .i64 x.Suite)],b1),(.agg [.val (.int .i64 y.Version),.val (.int .i64 y.Suite)],b2)] [] (v0 (.val (.bool (decide (x=y))))):=
 .binOpA rfl rfl (fun _ _=>rfl) (fun w=>by
  rw [Sem.run_bind,run_eqGuard_agg w _ 181 X Y _ _ aLj]
  simp only [Result.andThen_ok,run_eql_struct]
  exact congrArg (fun r=>Result.andThen r _) (aK6 x y w))
theorem rV (x y:C8) {X Y:Operand} {tk:Nat} {yt ty:TypeId} {b1 b2:Option LB}:Ha Tryz.prog tk (.binOp .neq 181 X Y yt) ty [(.agg [.val (.int .i64 x.Version),.val (.int .i64 x.Suite)],b1),(.agg [.val (.int .i64 y.Version),.val (.int .i64 y.Suite)],b2)] [] (v0 (.val (.bool (!decide (x=y))))):=
 .binOpA rfl rfl (fun _ _=>rfl) (fun w=>by
  rw [Sem.run_bind,run_eqGuard_agg w _ 181 X Y _ _ aLj]
  simp only [Result.andThen_ok,run_neq_struct]
  exact congrArg (fun r=>Result.andThen r _) (aK6 x y w))
theorem aV2:Tryz.prog.eqGuardType Tryz.prog.depth 49=false:=by kernel_rfl
theorem aW1:Tryz.prog.underlying 49=some (.struct (Tryz.prog.fieldsOf 49)):=by kernel_rfl
theorem aW2:Tryz.prog.stoodInHeld 49=false:=by kernel_rfl
theorem aVd (x y:Ah) (w:World):(Op.equalIn 10000 49 (.agg #[.int .i64 x.Alg,.int .i64 x.Bits]) (.agg #[.int .i64 y.Alg,.int .i64 y.Bits])).run Tryz.prog w=.ok (decide (x=y)) w:=by
 have u3:=Tryz.underlying3
 have a3:=Tryz.isAgg3
 have z3:=Tryz.sizeOf3
 rw [show (10000:Nat)=9999 + 1 from rfl,run_equalIn_agg w 9999 49 _ _ aW1 aW2]
 simp only [Program.fieldsOf,Tryz.underlying49]
 go_simp
 rcases x with ⟨x0,x1⟩
 rcases y with ⟨y0,y1⟩
 by_cases h0:x0=y0 <;> by_cases h1:x1=y1 <;> simp [h0,h1]
theorem iV (x y:Ah) {X Y:Operand} {tk:Nat} {yt ty:TypeId} {b1 b2:Option LB}:Ha Tryz.prog tk (.binOp .eql 49 X Y yt) ty [(.agg [.val (.int .i64 x.Alg),.val (.int .i64 x.Bits)],b1),(.agg [.val (.int .i64 y.Alg),.val (.int .i64 y.Bits)],b2)] [] (v0 (.val (.bool (decide (x=y))))):=
 .binOpA rfl rfl (fun _ _=>rfl) (fun w=>by
  rw [Sem.run_bind,run_eqGuard_agg w _ 49 X Y _ _ aV2]
  simp only [Result.andThen_ok,run_eql_struct]
  exact congrArg (fun r=>Result.andThen r _) (aVd x y w))
theorem wH:Tryz.prog.underlying 128=some (.map 126 4):=by kernel_rfl
theorem xZ:Tryz.prog.underlying 371=some (.map 3 3):=by kernel_rfl
theorem zv4 (w:World):(zeroValue 4).run Tryz.prog w=.ok (.bool false) w:=aTb (by kernel_rfl) w
instance:I8 Tryz.prog 117 0 0 31:=⟨aJ3⟩
instance:I8 Tryz.prog 117 1 3 39:=⟨aG1⟩
instance:I8 Tryz.prog 117 2 5 115:=⟨aJf⟩
instance:I8 Tryz.prog 117 3 6 61:=⟨aIu⟩
instance:I8 Tryz.prog 117 4 8 3:=⟨aIl⟩
instance:I8 Tryz.prog 141 0 0 3:=⟨aJp⟩
instance:I8 Tryz.prog 141 1 1 3:=⟨aH6⟩
instance:I8 Tryz.prog 143 0 0 141:=⟨aJu⟩
instance:I8 Tryz.prog 143 1 2 22:=⟨aH9⟩
instance:I8 Tryz.prog 146 0 0 3:=⟨aHd⟩
instance:I8 Tryz.prog 146 1 1 3:=⟨aIc⟩
instance:I8 Tryz.prog 148 0 0 3:=⟨aIv⟩
instance:I8 Tryz.prog 148 1 1 9:=⟨aGd⟩
instance:I8 Tryz.prog 148 10 12 91:=⟨aEv⟩
instance:I8 Tryz.prog 148 11 13 146:=⟨aD3⟩
instance:I8 Tryz.prog 148 2 2 9:=⟨aHx⟩
instance:I8 Tryz.prog 148 3 3 49:=⟨aHq⟩
instance:I8 Tryz.prog 148 4 5 3:=⟨aG9⟩
instance:I8 Tryz.prog 148 5 6 49:=⟨aIy⟩
instance:I8 Tryz.prog 148 6 8 3:=⟨aIe⟩
instance:I8 Tryz.prog 148 7 9 3:=⟨aKe⟩
instance:I8 Tryz.prog 148 8 10 4:=⟨aI9⟩
instance:I8 Tryz.prog 148 9 11 3:=⟨aI8⟩
instance:I8 Tryz.prog 177 0 0 49:=⟨aIq⟩
instance:I8 Tryz.prog 177 1 2 3:=⟨aH2⟩
instance:I8 Tryz.prog 177 2 3 9:=⟨aI3⟩
instance:I8 Tryz.prog 177 3 4 141:=⟨aGv⟩
instance:I8 Tryz.prog 177 4 6 175:=⟨aIt⟩
instance:I8 Tryz.prog 181 0 0 3:=⟨aJy⟩
instance:I8 Tryz.prog 181 1 1 3:=⟨aJt⟩
instance:I8 Tryz.prog 190 0 0 181:=⟨aKd⟩
instance:I8 Tryz.prog 201 0 0 3:=⟨aIs⟩
instance:I8 Tryz.prog 201 1 1 9:=⟨aIh⟩
instance:I8 Tryz.prog 201 2 2 49:=⟨aGc⟩
instance:I8 Tryz.prog 201 3 4 49:=⟨oY⟩
instance:I8 Tryz.prog 201 4 6 49:=⟨aHo⟩
instance:I8 Tryz.prog 201 5 8 49:=⟨aJm⟩
instance:I8 Tryz.prog 201 6 10 3:=⟨aId⟩
instance:I8 Tryz.prog 201 7 11 3:=⟨aJl⟩
instance:I8 Tryz.prog 208 0 0 3:=⟨aIj⟩
instance:I8 Tryz.prog 208 1 1 127:=⟨aI4⟩
instance:I8 Tryz.prog 208 2 2 127:=⟨aGg⟩
instance:I8 Tryz.prog 227 0 0 3:=⟨aI2⟩
instance:I8 Tryz.prog 227 1 1 3:=⟨aHu⟩
instance:I8 Tryz.prog 234 0 0 3:=⟨aIn⟩
instance:I8 Tryz.prog 234 1 1 3:=⟨aHp⟩
instance:I8 Tryz.prog 234 2 2 4:=⟨aGw⟩
instance:I8 Tryz.prog 258 0 0 91:=⟨aH3⟩
instance:I8 Tryz.prog 276 0 0 3:=⟨aJa⟩
instance:I8 Tryz.prog 276 1 1 219:=⟨aI6⟩
instance:I8 Tryz.prog 276 2 2 4:=⟨aGl⟩
instance:I8 Tryz.prog 276 3 3 274:=⟨aGf⟩
instance:I8 Tryz.prog 281 1 1 3:=⟨aGu⟩
instance:I8 Tryz.prog 281 2 2 3:=⟨aG3⟩
instance:I8 Tryz.prog 281 3 3 22:=⟨aKb⟩
instance:I8 Tryz.prog 281 4 4 22:=⟨aHe⟩
instance:I8 Tryz.prog 290 0 0 83:=⟨aGs⟩
instance:I8 Tryz.prog 290 1 9 3:=⟨aGq⟩
instance:I8 Tryz.prog 290 2 10 22:=⟨aKa⟩
instance:I8 Tryz.prog 31 0 0 27:=⟨aMi⟩
instance:I8 Tryz.prog 31 1 1 28:=⟨aN1⟩
instance:I8 Tryz.prog 31 2 2 29:=⟨aMv⟩
instance:I8 Tryz.prog 322 1 1 3:=⟨aGy⟩
instance:I8 Tryz.prog 35 0 0 4:=⟨aMp⟩
instance:I8 Tryz.prog 35 1 1 3:=⟨aOm⟩
instance:I8 Tryz.prog 35 2 2 3:=⟨aL5⟩
instance:I8 Tryz.prog 35 3 3 3:=⟨aL8⟩
instance:I8 Tryz.prog 35 4 4 3:=⟨aOw⟩
instance:I8 Tryz.prog 35 5 5 3:=⟨aOt⟩
instance:I8 Tryz.prog 39 0 0 36:=⟨aL3⟩
instance:I8 Tryz.prog 39 1 1 37:=⟨aLu⟩
instance:I8 Tryz.prog 47 0 0 9:=⟨aMt⟩
instance:I8 Tryz.prog 47 1 1 3:=⟨aNf⟩
instance:I8 Tryz.prog 47 2 2 3:=⟨aMg⟩
instance:I8 Tryz.prog 47 3 3 43:=⟨aLr⟩
instance:I8 Tryz.prog 47 4 4 3:=⟨aO8⟩
instance:I8 Tryz.prog 49 0 0 3:=⟨uP⟩
instance:I8 Tryz.prog 49 1 1 3:=⟨aPw⟩
instance:I8 Tryz.prog 52 0 0 49:=⟨aPe⟩
instance:I8 Tryz.prog 52 1 2 3:=⟨aCr⟩
instance:I8 Tryz.prog 56 0 0 3:=⟨aLx⟩
instance:I8 Tryz.prog 56 1 1 52:=⟨aPk⟩
instance:I8 Tryz.prog 61 0 0 22:=⟨aO3⟩
instance:I8 Tryz.prog 61 1 1 3:=⟨aM3⟩
instance:I8 Tryz.prog 64 0 0 3:=⟨aPa⟩
instance:I8 Tryz.prog 64 1 1 3:=⟨aPn⟩
instance:I8 Tryz.prog 64 2 2 3:=⟨aPz⟩
instance:I8 Tryz.prog 71 0 0 3:=⟨aOf⟩
instance:I8 Tryz.prog 71 1 1 3:=⟨aPs⟩
instance:I8 Tryz.prog 77 0 0 75:=⟨aEu⟩
instance:I8 Tryz.prog 77 1 1 22:=⟨uA⟩
instance:I8 Tryz.prog 77 2 2 22:=⟨aL7⟩
instance:I8 Tryz.prog 83 0 0 9:=⟨aNi⟩
instance:I8 Tryz.prog 83 1 1 3:=⟨uH⟩
instance:I8 Tryz.prog 83 2 2 3:=⟨oX⟩
instance:I8 Tryz.prog 83 3 3 22:=⟨wA⟩
instance:I8 Tryz.prog 83 4 4 4:=⟨aP2⟩
instance:I8 Tryz.prog 83 5 5 81:=⟨aOd⟩
instance:I8 Tryz.prog 83 6 6 22:=⟨aOg⟩
instance:I8 Tryz.prog 83 7 7 22:=⟨aLs⟩
instance:I8 Tryz.prog 83 8 8 4:=⟨aEr⟩
instance:I8 Tryz.prog 86 0 0 49:=⟨aLv⟩
instance:I8 Tryz.prog 86 1 2 3:=⟨aNs⟩
instance:I8 Tryz.prog 86 2 3 84:=⟨aPx⟩
instance:I8 Tryz.prog 88 1 1 3:=⟨aOl⟩
instance:I8 Tryz.prog 88 2 2 3:=⟨aM8⟩
instance:I8 Tryz.prog 90 0 0 22:=⟨aNw⟩
instance:I8 Tryz.prog 90 1 1 3:=⟨aMk⟩
instance:I8 Tryz.prog 98 0 0 3:=⟨aM0⟩
instance:I8 Tryz.prog 98 1 1 3:=⟨aNu⟩
instance:Up Tryz.prog 115 177 7 80:=⟨aTk⟩
instance:Up Tryz.prog 127 126 1 4:=⟨mS⟩
instance:Up Tryz.prog 136 3 1 8:=⟨aDu⟩
instance:Up Tryz.prog 164 141 2 16:=⟨aK2⟩
instance:Up Tryz.prog 175 146 2 16:=⟨aS5⟩
instance:Up Tryz.prog 186 190 4 48:=⟨aDn⟩
instance:Up Tryz.prog 219 5 1 1:=⟨Pz⟩
instance:Up Tryz.prog 22 3 1 8:=⟨Hz⟩
instance:Up Tryz.prog 232 234 3 24:=⟨aK8⟩
instance:Up Tryz.prog 235 234 3 24:=⟨aSj⟩
instance:Up Tryz.prog 236 234 3 24:=⟨aRq⟩
instance:Up Tryz.prog 259 201 12 104:=⟨aKj⟩
instance:Up Tryz.prog 27 83 9 144:=⟨aGj⟩
instance:Up Tryz.prog 274 276 4 64:=⟨Y3⟩
instance:Up Tryz.prog 28 98 2 16:=⟨aCq⟩
instance:Up Tryz.prog 29 47 5 64:=⟨aHa⟩
instance:Up Tryz.prog 323 322 2 24:=⟨aLh⟩
instance:Up Tryz.prog 36 35 6 48:=⟨aS9⟩
instance:Up Tryz.prog 37 227 2 16:=⟨aWa⟩
instance:Up Tryz.prog 43 52 3 24:=⟨wG⟩
instance:Up Tryz.prog 50 49 2 16:=⟨aJb⟩
instance:Up Tryz.prog 57 64 3 24:=⟨aDh⟩
instance:Up Tryz.prog 67 136 1 24:=⟨aHt⟩
instance:Up Tryz.prog 72 71 2 16:=⟨aTw⟩
instance:Up Tryz.prog 75 143 3 40:=⟨aUe⟩
instance:Up Tryz.prog 81 86 4 48:=⟨aOu⟩
instance:Up Tryz.prog 84 148 15 152:=⟨aN6⟩
instance:Up Tryz.prog 91 9 1 16:=⟨eE⟩
instance:Up Tryz.prog 93 22 1 24:=⟨aTo⟩
instance:M3 Tryz.prog 115 false 1:=⟨aT7⟩
instance:M3 Tryz.prog 117 true 9:=⟨aSk⟩
instance:M3 Tryz.prog 122 false 1:=⟨aRw⟩
instance:M3 Tryz.prog 126 false 1:=⟨Ps⟩
instance:M3 Tryz.prog 127 false 1:=⟨aT9⟩
instance:M3 Tryz.prog 128 false 1:=⟨aUc⟩
instance:M3 Tryz.prog 136 false 1:=⟨aQj⟩
instance:M3 Tryz.prog 141 true 2:=⟨aQ0⟩
instance:M3 Tryz.prog 143 true 3:=⟨aR6⟩
instance:M3 Tryz.prog 146 true 2:=⟨aSg⟩
instance:M3 Tryz.prog 148 true 15:=⟨aQg⟩
instance:M3 Tryz.prog 164 false 1:=⟨qS⟩
instance:M3 Tryz.prog 175 false 1:=⟨aTs⟩
instance:M3 Tryz.prog 177 true 7:=⟨aR5⟩
instance:M3 Tryz.prog 181 true 2:=⟨aC8⟩
instance:M3 Tryz.prog 186 false 1:=⟨aTl⟩
instance:M3 Tryz.prog 190 true 4:=⟨aRu⟩
instance:M3 Tryz.prog 201 true 12:=⟨aQk⟩
instance:M3 Tryz.prog 219 false 1:=⟨aRy⟩
instance:M3 Tryz.prog 22 false 1:=⟨iT⟩
instance:M3 Tryz.prog 227 true 2:=⟨aQe⟩
instance:M3 Tryz.prog 234 true 3:=⟨aUh⟩
instance:M3 Tryz.prog 27 false 1:=⟨aVh⟩
instance:M3 Tryz.prog 274 false 1:=⟨aT4⟩
instance:M3 Tryz.prog 276 true 4:=⟨Z7⟩
instance:M3 Tryz.prog 28 false 1:=⟨aVx⟩
instance:M3 Tryz.prog 281 true 5:=⟨aK9⟩
instance:M3 Tryz.prog 29 false 1:=⟨aWn⟩
instance:M3 Tryz.prog 290 true 11:=⟨aRk⟩
instance:M3 Tryz.prog 3 false 1:=⟨Z4⟩
instance:M3 Tryz.prog 31 true 3:=⟨aUz⟩
instance:M3 Tryz.prog 333 true 115:=⟨aTz⟩
instance:M3 Tryz.prog 335 true 2:=⟨aKo⟩
instance:M3 Tryz.prog 35 true 6:=⟨aWl⟩
instance:M3 Tryz.prog 36 false 1:=⟨aMx⟩
instance:M3 Tryz.prog 37 false 1:=⟨aVr⟩
instance:M3 Tryz.prog 39 true 2:=⟨aWv⟩
instance:M3 Tryz.prog 4 false 1:=⟨ty4⟩
instance:M3 Tryz.prog 40 false 1:=⟨aDg⟩
instance:M3 Tryz.prog 43 false 1:=⟨aXa⟩
instance:M3 Tryz.prog 47 true 5:=⟨aWw⟩
instance:M3 Tryz.prog 49 true 2:=⟨aO1⟩
instance:M3 Tryz.prog 5 false 1:=⟨ty5⟩
instance:M3 Tryz.prog 52 true 3:=⟨aVu⟩
instance:M3 Tryz.prog 61 true 2:=⟨aWb⟩
instance:M3 Tryz.prog 64 true 3:=⟨aUw⟩
instance:M3 Tryz.prog 71 true 2:=⟨aWm⟩
instance:M3 Tryz.prog 75 false 1:=⟨aO4⟩
instance:M3 Tryz.prog 77 true 3:=⟨aSf⟩
instance:M3 Tryz.prog 81 false 1:=⟨aWo⟩
instance:M3 Tryz.prog 83 true 9:=⟨aPi⟩
instance:M3 Tryz.prog 84 false 1:=⟨aVn⟩
instance:M3 Tryz.prog 86 true 4:=⟨aU4⟩
instance:M3 Tryz.prog 9 false 1:=⟨ty9⟩
instance:M3 Tryz.prog 91 false 1:=⟨aT5⟩
instance:M3 Tryz.prog 94 false 1:=⟨aDk⟩
instance:M3 Tryz.prog 98 true 2:=⟨aVg⟩
instance:Sh Tryz.prog 117 [.slice none 0 0,.slice none 0 0,.slice none 0 0,.slice none 0 0,.slice none 0 0,.slice none 0 0,.slice none 0 0,.int .i64 0,.int .i64 0]:=⟨aT3⟩
instance:Sh Tryz.prog 122 [.pointer none]:=⟨aVm⟩
instance:Sh Tryz.prog 126 [.int .u32 0]:=⟨aFf⟩
instance:Sh Tryz.prog 127 [.slice none 0 0]:=⟨aW7⟩
instance:Sh Tryz.prog 128 [.map none]:=⟨aWu⟩
instance:Sh Tryz.prog 136 [.slice none 0 0]:=⟨aPu⟩
instance:Sh Tryz.prog 141 [.int .i64 0,.int .i64 0]:=⟨aIr⟩
instance:Sh Tryz.prog 143 [.int .i64 0,.int .i64 0,.slice none 0 0]:=⟨aLo⟩
instance:Sh Tryz.prog 146 [.int .i64 0,.int .i64 0]:=⟨aHv⟩
instance:Sh Tryz.prog 148 [.int .i64 0,.string ⟨#[]⟩,.string ⟨#[]⟩,.int .i64 0,.int .i64 0,.int .i64 0,.int .i64 0,.int .i64 0,.int .i64 0,.int .i64 0,.bool false,.int .i64 0,.slice none 0 0,.int .i64 0,.int .i64 0]:=⟨aBn⟩
instance:Sh Tryz.prog 177 [.int .i64 0,.int .i64 0,.int .i64 0,.string ⟨#[]⟩,.int .i64 0,.int .i64 0,.slice none 0 0]:=⟨aWq⟩
instance:Sh Tryz.prog 181 [.int .i64 0,.int .i64 0]:=⟨kV⟩
instance:Sh Tryz.prog 186 [.slice none 0 0]:=⟨aWi⟩
instance:Sh Tryz.prog 190 [.int .i64 0,.int .i64 0,.int .i64 0,.slice none 0 0]:=⟨aHb⟩
instance:Sh Tryz.prog 201 [.int .i64 0,.string ⟨#[]⟩,.int .i64 0,.int .i64 0,.int .i64 0,.int .i64 0,.int .i64 0,.int .i64 0,.int .i64 0,.int .i64 0,.int .i64 0,.int .i64 0]:=⟨V3⟩
instance:Sh Tryz.prog 208 [.int .i64 0,.slice none 0 0,.slice none 0 0]:=⟨aRj⟩
instance:Sh Tryz.prog 22 [.slice none 0 0]:=⟨z22⟩
instance:Sh Tryz.prog 234 [.int .i64 0,.int .i64 0,.bool false]:=⟨aMn⟩
instance:Sh Tryz.prog 258 [.slice none 0 0]:=⟨aRm⟩
instance:Sh Tryz.prog 276 [.int .i64 0,.slice none 0 0,.bool false,.slice none 0 0]:=⟨Vf⟩
instance:Sh Tryz.prog 281 [.string ⟨#[]⟩,.int .i64 0,.int .i64 0,.slice none 0 0,.slice none 0 0]:=⟨S1⟩
instance:Sh Tryz.prog 290 [.string ⟨#[]⟩,.int .i64 0,.int .i64 0,.slice none 0 0,.bool false,.slice none 0 0,.slice none 0 0,.slice none 0 0,.bool false,.int .i64 0,.slice none 0 0]:=⟨aQ6⟩
instance:Sh Tryz.prog 3 [.int .i64 0]:=⟨z3⟩
instance:Sh Tryz.prog 31 [.slice none 0 0,.slice none 0 0,.slice none 0 0]:=⟨z31⟩
instance:Sh Tryz.prog 322 [.string ⟨#[]⟩,.int .i64 0]:=⟨Se⟩
instance:Sh Tryz.prog 333 [.string ⟨#[]⟩,.int .i64 0,.int .i64 0,.slice none 0 0,.slice none 0 0,.string ⟨#[]⟩,.int .i64 0,.int .i64 0,.slice none 0 0,.slice none 0 0,.string ⟨#[]⟩,.int .i64 0,.int .i64 0,.slice none 0 0,.slice none 0 0,.string ⟨#[]⟩,.int .i64 0,.int .i64 0,.slice none 0 0,.slice none 0 0,.string ⟨#[]⟩,.int .i64 0,.int .i64 0,.slice none 0 0,.slice none 0 0,.string ⟨#[]⟩,.int .i64 0,.int .i64 0,.slice none 0 0,.slice none 0 0,.string ⟨#[]⟩,.int .i64 0,.int .i64 0,.slice none 0 0,.slice none 0 0,.string ⟨#[]⟩,.int .i64 0,.int .i64 0,.slice none 0 0,.slice none 0 0,.string ⟨#[]⟩,.int .i64 0,.int .i64 0,.slice none 0 0,.slice none 0 0,.string ⟨#[]⟩,.int .i64 0,.int .i64 0,.slice none 0 0,.slice none 0 0,.string ⟨#[]⟩,.int .i64 0,.int .i64 0,.slice none 0 0,.slice none 0 0,.string ⟨#[]⟩,.int .i64 0,.int .i64 0,.slice none 0 0,.slice none 0 0,.string ⟨#[]⟩,.int .i64 0,.int .i64 0,.slice none 0 0,.slice none 0 0,.string ⟨#[]⟩,.int .i64 0,.int .i64 0,.slice none 0 0,.slice none 0 0,.string ⟨#[]⟩,.int .i64 0,.int .i64 0,.slice none 0 0,.slice none 0 0,.string ⟨#[]⟩,.int .i64 0,.int .i64 0,.slice none 0 0,.slice none 0 0,.string ⟨#[]⟩,.int .i64 0,.int .i64 0,.slice none 0 0,.slice none 0 0,.string ⟨#[]⟩,.int .i64 0,.int .i64 0,.slice none 0 0,.slice none 0 0,.string ⟨#[]⟩,.int .i64 0,.int .i64 0,.slice none 0 0,.slice none 0 0,.string ⟨#[]⟩,.int .i64 0,.int .i64 0,.slice none 0 0,.slice none 0 0,.string ⟨#[]⟩,.int .i64 0,.int .i64 0,.slice none 0 0,.slice none 0 0,.string ⟨#[]⟩,.int .i64 0,.int .i64 0,.slice none 0 0,.slice none 0 0,.string ⟨#[]⟩,.int .i64 0,.int .i64 0,.slice none 0 0,.slice none 0 0]:=⟨aTc⟩
instance:Sh Tryz.prog 335 [.int .i64 0,.int .i64 0]:=⟨aAi⟩
instance:Sh Tryz.prog 336 [.int .i64 0,.int .i64 0,.int .i64 0,.int .i64 0,.int .i64 0,.int .i64 0,.int .i64 0,.int .i64 0,.int .i64 0,.int .i64 0]:=⟨aRz⟩
instance:Sh Tryz.prog 343 [.int .i64 0,.int .i64 0]:=⟨aQ4⟩
instance:Sh Tryz.prog 345 [.int .i64 0,.int .i64 0,.int .i64 0]:=⟨aTd⟩
instance:Sh Tryz.prog 35 [.bool false,.int .i64 0,.int .i64 0,.int .i64 0,.int .i64 0,.int .i64 0]:=⟨z35⟩
instance:Sh Tryz.prog 39 [.slice none 0 0,.slice none 0 0]:=⟨z39⟩
instance:Sh Tryz.prog 40 [.int .i64 0]:=⟨z40⟩
instance:Sh Tryz.prog 47 [.string ⟨#[]⟩,.int .i64 0,.int .i64 0,.slice none 0 0,.int .i64 0]:=⟨z47⟩
instance:Sh Tryz.prog 49 [.int .i64 0,.int .i64 0]:=⟨tL⟩
instance:Sh Tryz.prog 5 [.int .u8 0]:=⟨z5⟩
instance:Sh Tryz.prog 52 [.int .i64 0,.int .i64 0,.int .i64 0]:=⟨z52⟩
instance:Sh Tryz.prog 56 [.int .i64 0,.int .i64 0,.int .i64 0,.int .i64 0]:=⟨z56⟩
instance:Sh Tryz.prog 61 [.slice none 0 0,.int .i64 0]:=⟨z61⟩
instance:Sh Tryz.prog 64 [.int .i64 0,.int .i64 0,.int .i64 0]:=⟨z64⟩
instance:Sh Tryz.prog 71 [.int .i64 0,.int .i64 0]:=⟨z71⟩
instance:Sh Tryz.prog 77 [.slice none 0 0,.slice none 0 0,.slice none 0 0]:=⟨z77⟩
instance:Sh Tryz.prog 83 [.string ⟨#[]⟩,.int .i64 0,.int .i64 0,.slice none 0 0,.bool false,.slice none 0 0,.slice none 0 0,.slice none 0 0,.bool false]:=⟨z83⟩
instance:Sh Tryz.prog 86 [.int .i64 0,.int .i64 0,.int .i64 0,.slice none 0 0]:=⟨z86⟩
instance:Sh Tryz.prog 88 [.int .i64 0,.int .i64 0,.int .i64 0,.int .i64 0,.int .i64 0,.int .i64 0,.int .i64 0,.slice none 0 0]:=⟨z88⟩
instance:Sh Tryz.prog 9 [.string ⟨#[]⟩]:=⟨z9⟩
instance:Sh Tryz.prog 90 [.slice none 0 0,.int .i64 0]:=⟨z90⟩
instance:Sh Tryz.prog 94 [.nilFunc]:=⟨z94⟩
instance:Sh Tryz.prog 98 [.int .i64 0,.int .i64 0]:=⟨z98⟩
instance:O2 Ae.enc 2:=⟨Ae.enc_len⟩
instance:O2 Ah.enc 2:=⟨Ah.enc_len⟩
instance:O2 E9.enc 2:=⟨E9.enc_len⟩
instance:O2 Ab.enc 15:=⟨Ab.enc_len⟩
instance:O2 Av.enc 4:=⟨Av.enc_len⟩
instance:O2 Ad.enc 9:=⟨Ad.enc_len⟩
instance:O2 Bi.enc 2:=⟨Bi.enc_len⟩
instance:O2 A1.enc 3:=⟨A1.enc_len⟩
instance:O2 Aq.enc 5:=⟨Aq.enc_len⟩
instance:O2 Ak.enc 3:=⟨Ak.enc_len⟩
instance:O2 Al.enc 6:=⟨Al.enc_len⟩
instance:O2 Bk.enc 2:=⟨Bk.enc_len⟩
instance:O2 Br.enc 2:=⟨Br.enc_len⟩
instance:O2 L1.enc 4:=⟨L1.enc_len⟩
instance:O2 Ay.enc 3:=⟨Ay.enc_len⟩
instance:O2 Bh.enc 2:=⟨Bh.enc_len⟩
instance:O2 Ap.enc 7:=⟨Ap.enc_len⟩
instance:O2 Fl.enc 2:=⟨Fl.enc_len⟩
instance:O2 Bq.enc 2:=⟨Bq.enc_len⟩
instance:O2 Aw.enc 3:=⟨Aw.enc_len⟩
instance:O2 A5.enc 3:=⟨A5.enc_len⟩
instance:O2 Fx.enc 8:=⟨Fx.enc_len⟩
instance:O2 A4.enc 3:=⟨A4.enc_len⟩
instance:O2 Ao.enc 2:=⟨Ao.enc_len⟩
instance:O2 Aa.enc 4:=⟨Aa.enc_len⟩
instance:O2 Am.enc 12:=⟨Am.enc_len⟩
instance:O2 C9.enc 5:=⟨C9.enc_len⟩
instance:O2 Bd.enc 3:=⟨Bd.enc_len⟩
instance:O2 Fs.enc 9:=⟨Fs.enc_len⟩
instance:O2 C8.enc 2:=⟨C8.enc_len⟩
instance:O2 Ai.enc 4:=⟨Ai.enc_len⟩
instance:O2 Cw.enc 11:=⟨Cw.enc_len⟩
instance:O2 F0.enc 1:=⟨F0.enc_len⟩
instance:tM Ah.enc:=⟨fun x c hc=>by simp only [Ah.enc,aF6,aGr,aSy] at hc; rcases hc with rfl | rfl <;> rfl⟩
instance:tM E9.enc:=⟨fun x c hc=>by simp only [E9.enc,aF6,aGr,aSy] at hc; rcases hc with rfl | rfl <;> rfl⟩
instance:tM Bi.enc:=⟨fun x c hc=>by simp only [Bi.enc,aF6,aGr,aSy] at hc; rcases hc with rfl | rfl <;> rfl⟩
instance:tM A1.enc:=⟨fun x c hc=>by simp only [A1.enc,aF6,aGr,aSy] at hc; rcases hc with rfl | rfl | rfl <;> rfl⟩
instance:tM Al.enc:=⟨fun x c hc=>by simp only [Al.enc,aF6,aGr,aSy] at hc; rcases hc with rfl | rfl | rfl | rfl | rfl | rfl <;> rfl⟩
instance:tM Bk.enc:=⟨fun x c hc=>by simp only [Bk.enc,aF6,aGr,aSy] at hc; rcases hc with rfl | rfl <;> rfl⟩
instance:tM L1.enc:=⟨fun x c hc=>by simp only [L1.enc,aF6,aGr,aSy] at hc; rcases hc with rfl | rfl | rfl | rfl <;> rfl⟩
instance:tM Ay.enc:=⟨fun x c hc=>by simp only [Ay.enc,aF6,aGr,aSy] at hc; rcases hc with rfl | rfl | rfl <;> rfl⟩
instance:tM Bh.enc:=⟨fun x c hc=>by simp only [Bh.enc,aF6,aGr,aSy] at hc; rcases hc with rfl | rfl <;> rfl⟩
instance:tM Bq.enc:=⟨fun x c hc=>by simp only [Bq.enc,aF6,aGr,aSy] at hc; rcases hc with rfl | rfl <;> rfl⟩
instance:tM Ao.enc:=⟨fun x c hc=>by simp only [Ao.enc,aF6,aGr,aSy] at hc; rcases hc with rfl | rfl <;> rfl⟩
instance:tM Am.enc:=⟨fun x c hc=>by simp only [Am.enc,aF6,aGr,aSy] at hc; rcases hc with rfl | rfl | rfl | rfl | rfl | rfl | rfl | rfl | rfl | rfl | rfl | rfl <;> rfl⟩
instance:tM Bd.enc:=⟨fun x c hc=>by simp only [Bd.enc,aF6,aGr,aSy] at hc; rcases hc with rfl | rfl | rfl <;> rfl⟩
instance:tM C8.enc:=⟨fun x c hc=>by simp only [C8.enc,aF6,aGr,aSy] at hc; rcases hc with rfl | rfl <;> rfl⟩
instance:Wg Tryz.prog 3 (.int .i64):=⟨aCj⟩
instance:Wg Tryz.prog 4 (.bool):=⟨aWd⟩
instance:Wg Tryz.prog 5 (.int .u8):=⟨aE5⟩
instance:Wg Tryz.prog 9 (.string):=⟨dK⟩
instance:Wg Tryz.prog 22 (.slice 3):=⟨aK4⟩
instance:Wg Tryz.prog 43 (.slice 52):=⟨aKx⟩
instance:Wg Tryz.prog 81 (.slice 86):=⟨aKr⟩
instance:Wg Tryz.prog 84 (.slice 148):=⟨aKy⟩
instance:Wg Tryz.prog 91 (.slice 9):=⟨aKu⟩
instance:Wg Tryz.prog 125 (.int .u32):=⟨aPb⟩
instance:Wg Tryz.prog 126 (.int .u32):=⟨uD⟩
instance:Wg Tryz.prog 211 (.int .u64):=⟨aMm⟩
instance:Wg Tryz.prog 212 (.array 32 5):=⟨aCg⟩
instance:Wg Tryz.prog 219 (.slice 5):=⟨aCb⟩
instance:Wg Tryz.prog 235 (.slice 234):=⟨aB2⟩
instance:Wg Tryz.prog 236 (.slice 234):=⟨aE3⟩
instance:Wg Tryz.prog 270 (.int .u64):=⟨aBw⟩
instance:Wg Tryz.prog 303 (.array 256 5):=⟨hO⟩
instance:Wg Tryz.prog 333 (.array 23 281):=⟨uY⟩
instance:Wg Tryz.prog 335 (.array 2 3):=⟨Xx⟩
instance:Wg Tryz.prog 336 (.array 5 335):=⟨uM⟩
instance:Wg Tryz.prog 343 (.array 2 40):=⟨tX⟩
instance:Wg Tryz.prog 345 (.array 3 40):=⟨vR⟩
end Go.Proofs.YtboglmbblmakjaaGreatDoor
