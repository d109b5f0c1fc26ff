/-
  The frame of a tied card: what its proof imports.
-/
import Derived.Test.YtjfdbigkbgolmaaDoorFrame
import Derived.Test.YtjfdbigkbgolmaaDoorCards
import Derived.Test.YtjfdbigkbgolmaaDoorTie
import Derived.Deep.DeepHandedRow
import Derived.LaidMore
